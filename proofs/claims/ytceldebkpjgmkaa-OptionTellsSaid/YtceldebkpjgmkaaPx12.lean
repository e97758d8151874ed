-- Written by a program of this session (hprint.py), out of the translation; functions that the print does not take are given by hand.
import Derived.Test.YtceldebkpjgmkaaPx0
import Derived.Test.YtceldebkpjgmkaaPx3
import Derived.Test.YtceldebkpjgmkaaPx4
namespace Go.Proofs.Ytceldebkpjgmkaa.P
open Go.RowKit Go.Proofs.YtceldebkpjgmkaaM Go.Proofs.YtceldebkpjgmkaaW.PrintWords Go.Proofs.YtceldebkpjgmkaaW.PrintLast Go.Proofs.YtceldebkpjgmkaaW.PrintMore
attribute [local go_sem] max2_int min2_int max_two min_two max_three min_three max_four min_four   -- for this text's walks alone
set_option linter.unusedVariables false
set_option linter.unusedSimpArgs false

/-! ### ring_Put: function 13 -/
def ring_Put.f (a0_0 : Int) (a0_1 : Int) (a1 : Bool) : Option (Int × Int) := (ring_of.f a0_0 a0_1).bind fun bt165 => ((ring_mask.f 60).bind fun t168 => (if a1 = true then (some (mn (wrap64 (bt165.1 + 1)) 60, Go.bits .or .u64 (Go.bits .and .u64 (IntKind.u64.wrap (bt165.2 * 2)) t168) 1)) else (some (mn (wrap64 (bt165.1 + 1)) 60, Go.bits .and .u64 (IntKind.u64.wrap (bt165.2 * 2)) t168))))
def ring_Put.T2 : Bool × List (List Nat × List Nat) := (true, [([], []), ([0], [0]), ([1], [1]), ([2], [2]), ([], []), ([3, 4], [3, 4]), ([0, 1, 2, 3, 4, 5], []), ([6, 0, 1, 2, 3, 4, 5], [6]), ([7, 5, 4, 0, 1, 2, 3, 4, 5], [5, 7])])
def ring_Put.B2 : List Nat := [0, 1, 3, 7, 0, 31, 63, 127, 255]
theorem ring_Put.tab2 : rtab .any (opsOf Try.f13 2) = ring_Put.T2 := by kernel_rfl
theorem ring_Put.bits2 : waitsOk ring_Put.T2.2 ring_Put.B2 = true := by kernel_rfl
set_option maxHeartbeats 8000000 in
set_option maxRecDepth 100000 in
theorem ring_Put.calls (a0_0 : Int) (a0_1 : Int) (a1 : Bool) (r1 : Int) (r2 : Int) (w : World) (h : ring_Put.f a0_0 a0_1 a1 = some (r1, r2)) :
    Calls Try.prog 13 #[.agg #[.int .i64 a0_0, .int .u64 a0_1], .bool a1] w fun e w' => e = .returned (.agg #[.int .i64 r1, .int .u64 r2]) ∧ Below w.heap.size w w' := by
  have hu33 := Try.underlying33
  have hu57 := Try.underlying57
  have HB := Aside0.mk (Below.refl w.heap.size w)
  have H : ((ring_of.f a0_0 a0_1).bind fun bt165 => ((ring_mask.f 60).bind fun t168 => (if a1 = true then (some (mn (wrap64 (bt165.1 + 1)) 60, Go.bits .or .u64 (Go.bits .and .u64 (IntKind.u64.wrap (bt165.2 * 2)) t168) 1)) else (some (mn (wrap64 (bt165.1 + 1)) 60, Go.bits .and .u64 (IntKind.u64.wrap (bt165.2 * 2)) t168))))) = some (r1, r2) := h
  clear h
  replace H := Option.bind_eq_some_iff.mp H
  obtain ⟨⟨t165, t166⟩, A30, H⟩ := H
  try dsimp only at H
  have A3 := Aside0.mk A30
  clear A30
  replace H := Option.bind_eq_some_iff.mp H
  obtain ⟨t168, A40, H⟩ := H
  try dsimp only at H
  have A4 := Aside0.mk A40
  clear A40
  by_cases c5 : a1 = true
  · subst c5
    rw [if_pos rfl] at H
    obtain ⟨ji6, hji6⟩ : ∃ j_ : Int, (mn (wrap64 (t165 + 1)) 60) = j_ := ⟨_, rfl⟩
    replace H : (some (ji6, Go.bits .or .u64 (Go.bits .and .u64 (IntKind.u64.wrap (t166 * 2)) t168) 1)) = some (r1, r2) := by first | (rw [hji6] at H; exact H) | (simp only [hji6] at H ⊢; exact H)
    (try rw [hji6] at A3)
    (try rw [hji6] at A4)
    (try (have hji6h : ji6 ≤ 60 := by (rw [← hji6]; unfold mn; (repeat' split) <;> omega)))
    (try (have hji6g : ji6 ≤ 64 := by omega))
    have hji6_ : (if 60 < (wrap64 (t165 + 1)) then 60 else (wrap64 (t165 + 1))) = ji6 := hji6
    simp only [Option.some.injEq, Prod.mk.injEq] at H
    obtain ⟨rfl, rfl⟩ := H
    go_enter Try.func13, Try.ntmps13
    try go_wp2_with (first | ((with_reducible refine gate_dst (N := 2) rfl ?_); refine box_event ?hg (N := 2) ?hd (cs := #[.int .i64 a0_0, .int .u64 a0_1]) (t := 33) ?hr ?_; (case hd => rfl); (case hg => rfl); (case hr => first | (go_simp; done) | (go_simp; rfl)); intro gb163 hg w7 hbox hb; have n0_ := bs HB hb; have n1_ := Aside0.mk (hbox); have n2_ := bz HB hg; have n3_ := bz HB hg; clear HB; have HB := n0_; have BK163 := n1_; have GW163 := n2_; have GE163 := n3_; clear n0_ n1_ n2_ n3_; clear hb hbox hg) | ((with_reducible refine gate_dst (N := 4) rfl ?_); refine box_event ?hg (N := 4) ?hd (cs := #[.int .i64 0, .int .u64 0]) (t := 33) ?hr ?_; (case hd => rfl); (case hg => rfl); (case hr => first | (go_simp; done) | (go_simp; rfl)); intro gb164 hg w8 hbox hb; have n0_ := bb BK163 hb; have n1_ := bs HB hb; have n2_ := Aside0.mk (hbox); have n3_ := bz HB hg; have n4_ := bz HB hg; have n5_ := bl BK163 hg; have n6_ := bg BK163 hg; clear BK163; clear HB; have BK163 := n0_; have HB := n1_; have BK164 := n2_; have GW164 := n3_; have GE164 := n4_; have NB163_164 := n5_; have NB164_163 := n6_; clear n0_ n1_ n2_ n3_ n4_ n5_ n6_; clear hb hbox hg; have hnb9 := NB163_164.out; have hnc9 := NB164_163.out; obtain ⟨hcz10_0, hcz10_1⟩ := cc2 BK163; obtain ⟨hfz10_0, hfz10_1⟩ := cf2 BK163) | ((with_reducible refine gate_callee (f := 28) rfl ?_); refine goesL_ (some 7) rfl rfl Try.func28 (by kernel_rfl) rfl #[.agg #[.int .i64 a0_0, .int .u64 a0_1]] rfl (by (try simp only [List.map_toArray, List.map_cons, List.map_nil]); first | done | rfl | (simp only [List.length_drop, List.length_take]; rfl)) ?_; (with_reducible refine (ring_of.calls a0_0 a0_1 t165 t166 _ A3.out).mono ?_); rintro e w11 ⟨rfl, hb⟩; refine ⟨_, rfl, ?_⟩; have n0_ := bb BK163 hb; have n1_ := bb BK164 hb; have n2_ := bs HB hb; clear BK163; clear BK164; clear HB; have BK163 := n0_; have BK164 := n1_; have HB := n2_; clear n0_ n1_ n2_; (try clear hb); (try clear hb2); (try clear hk); (try clear hi)) | ((with_reducible refine gate_dst (N := 5) rfl ?_); refine box_event ?hg (N := 5) ?hd (cs := #[.int .i64 0, .int .u64 0]) (t := 57) ?hr ?_; (case hd => rfl); (case hg => rfl); (case hr => first | (go_simp; done) | (go_simp; rfl)); intro gb167 hg w12 hbox hb; have n0_ := bb BK163 hb; have n1_ := bb BK164 hb; have n2_ := bs HB hb; have n3_ := Aside0.mk (hbox); have n4_ := bz HB hg; have n5_ := bz HB hg; have n6_ := bl BK163 hg; have n7_ := bg BK163 hg; have n8_ := bl BK164 hg; have n9_ := bg BK164 hg; clear BK163; clear BK164; clear HB; have BK163 := n0_; have BK164 := n1_; have HB := n2_; have BK167 := n3_; have GW167 := n4_; have GE167 := n5_; have NB163_167 := n6_; have NB167_163 := n7_; have NB164_167 := n8_; have NB167_164 := n9_; clear n0_ n1_ n2_ n3_ n4_ n5_ n6_ n7_ n8_ n9_; clear hb hbox hg; have hnb13 := NB167_163.out; have hnc13 := NB163_167.out; have hnb14 := NB167_164.out; have hnc14 := NB164_167.out; (try clear hcz10_0 hcz10_1 hfz10_0 hfz10_1); obtain ⟨hcz15_0, hcz15_1⟩ := cc2 BK167; obtain ⟨hfz15_0, hfz15_1⟩ := cf2 BK167))
    have n0_ : Aside0 (((w12.setCell ⟨gb167, 0, none⟩ (.int .i64 t165)).setCell ⟨gb167, 1, none⟩ (.int .u64 t166)).heap[gb163]? = some (.cells #[.int .i64 a0_0, .int .u64 a0_1] 33 (0, 0))) := ⟨by (with_reducible repeat (first | refine bN ?_ _ | refine bD ?_ | refine bA ?_ _ | refine blk_far ?_ NB163_167.out _)); exact BK163.out⟩
    have n1_ : Aside0 (((w12.setCell ⟨gb167, 0, none⟩ (.int .i64 t165)).setCell ⟨gb167, 1, none⟩ (.int .u64 t166)).heap[gb164]? = some (.cells #[.int .i64 0, .int .u64 0] 33 (0, 0))) := ⟨by (with_reducible repeat (first | refine bN ?_ _ | refine bD ?_ | refine bA ?_ _ | refine blk_far ?_ NB164_167.out _)); exact BK164.out⟩
    have n2_ : Aside0 (((w12.setCell ⟨gb167, 0, none⟩ (.int .i64 t165)).setCell ⟨gb167, 1, none⟩ (.int .u64 t166)).heap[gb167]? = some (.cells #[.int .i64 t165, .int .u64 t166] 57 (0, 0))) := ⟨by (with_reducible repeat (first | refine bN ?_ _ | refine bD ?_ | refine bA ?_ _)); refine blk_put (cs := #[.int .i64 t165, .int .u64 0]) ?_ 1 _ rfl; (with_reducible repeat (first | refine bN ?_ _ | refine bD ?_ | refine bA ?_ _)); refine blk_put (cs := #[.int .i64 0, .int .u64 0]) ?_ 0 _ rfl; (with_reducible repeat (first | refine bN ?_ _ | refine bD ?_ | refine bA ?_ _)); exact BK167.out⟩
    have n3_ : Aside0 (Below w.heap.size w ((w12.setCell ⟨gb167, 0, none⟩ (.int .i64 t165)).setCell ⟨gb167, 1, none⟩ (.int .u64 t166))) := ⟨by repeat (first | (with_reducible first | exact HB.out | apply below_alloc | apply pw_below_drewN | apply below_drew1 | refine below_set ?_ GE163.out | refine below_set ?_ GE164.out | refine below_set ?_ GE167.out) | exact HB.out)⟩
    (try clear BK163)
    (try clear BK164)
    (try clear BK167)
    (try clear HB)
    generalize ((w12.setCell ⟨gb167, 0, none⟩ (.int .i64 t165)).setCell ⟨gb167, 1, none⟩ (.int .u64 t166)) = w16 at n0_ n1_ n2_ n3_ ⊢
    have BK163 := n0_
    have BK164 := n1_
    have BK167 := n2_
    have HB := n3_
    clear n0_ n1_ n2_ n3_
    have n0_ := Aside0.mk (blk_drew BK163.out)
    have n1_ := Aside0.mk (blk_drew BK164.out)
    have n2_ := Aside0.mk (blk_drew BK167.out)
    have n3_ := Aside0.mk (below_drew1 HB.out)
    clear BK163
    clear BK164
    clear BK167
    clear HB
    have BK163 := n0_
    have BK164 := n1_
    have BK167 := n2_
    have HB := n3_
    clear n0_ n1_ n2_ n3_
    refine start_ (n := 9) (S := fun w' => w'.cell? ⟨gb167, 0, none⟩ = some (.int .i64 t165) ∧ w'.cell? ⟨gb167, 1, none⟩ = some (.int .u64 t166)) (ds := [8]) #[false, false, false, false, false, false, false, false, false] (by kernel_rfl) rfl rfl ⟨(blk_cell BK167.out 0).trans rfl, (blk_cell BK167.out 1).trans rfl⟩ (fun hHeld => ?_); refine with_tabW ring_Put.tab2 ring_Put.bits2 (fun HT_ HW_ => ?_)
    generalize w16.drew = w17 at BK163 BK164 BK167 HB hHeld ⊢
    refine pure_ (i := 0) (N := some 8) (v := ?_) (a' := ?_) #[true, false, false, false, false, false, false, false, false] rfl rfl (any_of HT_.out (by kernel_rfl)) (fun _ _ _ h => h) (Or.inl ⟨by rfl, ?_⟩) ?_ ?_
    rotate_left; focus (intro w'; go_simp; with_reducible rfl)
    rotate_left; focus (simp only [Act.put, List.setIfInBounds_toArray, List.set_cons_zero, List.set_cons_succ, i64_w, i32_w]; rfl)
    refine pure_ (i := 1) (N := some 9) (v := ?_) (a' := ?_) #[true, true, false, false, false, false, false, false, false] rfl rfl (any_of HT_.out (by kernel_rfl)) (fun _ _ _ h => h) (Or.inl ⟨by rfl, ?_⟩) ?_ ?_
    rotate_left; focus (intro w'; go_simp; with_reducible rfl)
    rotate_left; focus (simp only [Act.put, List.setIfInBounds_toArray, List.set_cons_zero, List.set_cons_succ, i64_w, i32_w]; rfl)
    refine take_ (i := 2) (N := some 10) (v := ?_) (a' := ?_) #[true, true, true, false, false, false, false, false, false] rfl rfl (take_ofW HT_.out HW_.out (by kernel_rfl)) (fun _ _ _ h => h) (Or.inl ⟨by rfl, ?_⟩) hHeld ?_ ?_
    rotate_left
    · rintro w' ⟨s0, s1⟩
      go_simp
      with_reducible rfl
    rotate_left; focus (simp only [Act.put, List.setIfInBounds_toArray, List.set_cons_zero, List.set_cons_succ, i64_w, i32_w]; rfl)
    refine pure_ (i := 3) (N := some 11) (v := ?_) (a' := ?_) #[true, true, true, true, false, false, false, false, false] rfl rfl (any_of HT_.out (by kernel_rfl)) (fun _ _ _ h => h) (Or.inl ⟨by rfl, ?_⟩) ?_ ?_
    rotate_left; focus (intro w'; go_simp; with_reducible rfl)
    rotate_left; focus (simp only [Act.put, List.setIfInBounds_toArray, List.set_cons_zero, List.set_cons_succ, i64_w, i32_w]; rfl)
    refine one_ (i := 4) (N := some 12) #[true, true, true, true, true, false, false, false, false] rfl rfl (one_of HT_.out (by kernel_rfl)) (by decide) (fun K hK => ?_)
    refine goes_ Try.func29 (by kernel_rfl) rfl #[.int .i64 60] (by rfl) rfl rfl (by (try simp only [List.map_toArray, List.map_cons, List.map_nil]); first | done | rfl | (simp only [List.length_drop, List.length_take]; rfl)) ?_
    with_reducible refine (ring_mask.calls 60 t168 _ A4.out).mono ?_
    rintro e w' ⟨rfl, ⟨nd, rfl⟩⟩
    refine ⟨_, rfl, ?_⟩
    refine hK.out _ _ ⟨(blk_cell BK167.out 0).trans rfl, (blk_cell BK167.out 1).trans rfl⟩ (fun hHeld => ?_)
    clear hK K
    refine norm_ (a' := ?_) ?_ ?_
    rotate_left
    · show Act.put _ (some 12) _ = _
      simp only [Act.put, List.setIfInBounds_toArray, List.set_cons_zero, List.set_cons_succ, i64_w, i32_w]
      rfl
    refine pure_ (i := 5) (N := some 13) (v := ?_) (a' := ?_) #[true, true, true, true, true, true, false, false, false] rfl rfl (any_of HT_.out (by kernel_rfl)) (fun _ _ _ h => h) (Or.inl ⟨by rfl, ?_⟩) ?_ ?_
    rotate_left; focus (intro w'; go_simp; with_reducible rfl)
    rotate_left; focus (simp only [Act.put, List.setIfInBounds_toArray, List.set_cons_zero, List.set_cons_succ, i64_w, i32_w]; rfl)
    refine pure_ (i := 6) (N := some 14) (v := ?_) (a' := ?_) #[true, true, true, true, true, true, true, false, false] rfl rfl (any_of HT_.out (by kernel_rfl)) (fun _ _ _ h => h) (Or.inl ⟨by rfl, ?_⟩) ?_ ?_
    rotate_left; focus (intro w'; go_simp; with_reducible rfl)
    rotate_left; focus (simp only [Act.put, List.setIfInBounds_toArray, List.set_cons_zero, List.set_cons_succ, i64_w, i32_w]; rfl)
    refine pure_ (i := 7) (N := some 15) (v := ?_) (a' := ?_) #[true, true, true, true, true, true, true, true, false] rfl rfl (any_of HT_.out (by kernel_rfl)) (fun _ _ _ h => h) (Or.inl ⟨by rfl, ?_⟩) ?_ ?_
    rotate_left; focus (intro w'; go_simp; with_reducible rfl)
    rotate_left; focus (simp only [Act.put, List.setIfInBounds_toArray, List.set_cons_zero, List.set_cons_succ, i64_w, i32_w]; rfl)
    refine last_ (i := 8) (N := none) #[true, true, true, true, true, true, true, true, true] rfl rfl (one_of HT_.out (by kernel_rfl)) (by decide) (fun K hK => ?_)
    have hs18 : w17.cell? ⟨gb167, 1, none⟩ = some (.int .u64 t166) := (blk_cell BK167.out 1).trans rfl
    have hfs18 := blk_frozen BK167.out 1
    have hns18_0 := NB163_167.out
    have hns18_1 := NB164_167.out
    have hms18_0 := NB167_163.out
    have hms18_1 := NB167_164.out
    refine skip_ (w1 := ?_) (by rfl) rfl ?_ ?_
    rotate_left
    · go_simp
      rfl
    refine hK.out _ _ ?_
    clear hK K
    refine done_ (done_of HT_.out (by kernel_rfl)) ?_
    obtain ⟨hcz19_0, hcz19_1⟩ := cc2 BK167
    obtain ⟨hfz19_0, hfz19_1⟩ := cf2 BK167
    obtain ⟨hcz20_0, hcz20_1⟩ := cc2 BK164
    obtain ⟨hfz20_0, hfz20_1⟩ := cf2 BK164
    try go_wp2
    refine bodyPost_ret (results_cell_row rfl _ _ gb164 33 #[.int .i64 ji6, .int .u64 (Go.bits .or .u64 (Go.bits .and .u64 (IntKind.u64.wrap (t166 * 2)) t168) 1)] (0, 0) _ rfl (by (with_reducible repeat (first | refine bN ?_ _ | refine bD ?_ | refine bA ?_ _)); refine blk_put (cs := #[.int .i64 ji6, .int .u64 0]) ?_ 1 _ rfl; (with_reducible repeat (first | refine bN ?_ _ | refine bD ?_ | refine bA ?_ _)); refine blk_put (cs := #[.int .i64 0, .int .u64 0]) ?_ 0 _ rfl; (with_reducible repeat (first | refine bN ?_ _ | refine bD ?_ | refine bA ?_ _ | refine blk_far ?_ NB164_167.out _)); exact BK164.out) Try.underlying33 rfl (by kernel_rfl)) rfl ?_
    exact ⟨by first | rfl | (simp [errW_none, errW_some] <;> rfl) | (simp only [← hji6]; first | rfl | (simp [errW_none, errW_some] <;> rfl)) | (simp [*, errW_none, errW_some] <;> rfl) | (exfalso; contradiction), by repeat (first | (with_reducible first | exact HB.out | apply below_alloc | apply pw_below_drewN | apply below_drew1 | refine below_set ?_ GE163.out | refine below_set ?_ GE164.out | refine below_set ?_ GE167.out) | exact HB.out)⟩
  · replace c5 := Bool.eq_false_iff.mpr c5
    subst c5
    rw [if_neg (show ¬ (false = true) by decide)] at H
    obtain ⟨ji21, hji21⟩ : ∃ j_ : Int, (mn (wrap64 (t165 + 1)) 60) = j_ := ⟨_, rfl⟩
    replace H : (some (ji21, Go.bits .and .u64 (IntKind.u64.wrap (t166 * 2)) t168)) = some (r1, r2) := by first | (rw [hji21] at H; exact H) | (simp only [hji21] at H ⊢; exact H)
    (try rw [hji21] at A3)
    (try rw [hji21] at A4)
    (try (have hji21h : ji21 ≤ 60 := by (rw [← hji21]; unfold mn; (repeat' split) <;> omega)))
    (try (have hji21g : ji21 ≤ 64 := by omega))
    have hji21_ : (if 60 < (wrap64 (t165 + 1)) then 60 else (wrap64 (t165 + 1))) = ji21 := hji21
    simp only [Option.some.injEq, Prod.mk.injEq] at H
    obtain ⟨rfl, rfl⟩ := H
    go_enter Try.func13, Try.ntmps13
    try go_wp2_with (first | ((with_reducible refine gate_dst (N := 2) rfl ?_); refine box_event ?hg (N := 2) ?hd (cs := #[.int .i64 a0_0, .int .u64 a0_1]) (t := 33) ?hr ?_; (case hd => rfl); (case hg => rfl); (case hr => first | (go_simp; done) | (go_simp; rfl)); intro gb163 hg w22 hbox hb; have n0_ := bs HB hb; have n1_ := Aside0.mk (hbox); have n2_ := bz HB hg; have n3_ := bz HB hg; clear HB; have HB := n0_; have BK163 := n1_; have GW163 := n2_; have GE163 := n3_; clear n0_ n1_ n2_ n3_; clear hb hbox hg) | ((with_reducible refine gate_dst (N := 4) rfl ?_); refine box_event ?hg (N := 4) ?hd (cs := #[.int .i64 0, .int .u64 0]) (t := 33) ?hr ?_; (case hd => rfl); (case hg => rfl); (case hr => first | (go_simp; done) | (go_simp; rfl)); intro gb164 hg w23 hbox hb; have n0_ := bb BK163 hb; have n1_ := bs HB hb; have n2_ := Aside0.mk (hbox); have n3_ := bz HB hg; have n4_ := bz HB hg; have n5_ := bl BK163 hg; have n6_ := bg BK163 hg; clear BK163; clear HB; have BK163 := n0_; have HB := n1_; have BK164 := n2_; have GW164 := n3_; have GE164 := n4_; have NB163_164 := n5_; have NB164_163 := n6_; clear n0_ n1_ n2_ n3_ n4_ n5_ n6_; clear hb hbox hg; have hnb24 := NB163_164.out; have hnc24 := NB164_163.out; obtain ⟨hcz25_0, hcz25_1⟩ := cc2 BK163; obtain ⟨hfz25_0, hfz25_1⟩ := cf2 BK163) | ((with_reducible refine gate_callee (f := 28) rfl ?_); refine goesL_ (some 7) rfl rfl Try.func28 (by kernel_rfl) rfl #[.agg #[.int .i64 a0_0, .int .u64 a0_1]] rfl (by (try simp only [List.map_toArray, List.map_cons, List.map_nil]); first | done | rfl | (simp only [List.length_drop, List.length_take]; rfl)) ?_; (with_reducible refine (ring_of.calls a0_0 a0_1 t165 t166 _ A3.out).mono ?_); rintro e w26 ⟨rfl, hb⟩; refine ⟨_, rfl, ?_⟩; have n0_ := bb BK163 hb; have n1_ := bb BK164 hb; have n2_ := bs HB hb; clear BK163; clear BK164; clear HB; have BK163 := n0_; have BK164 := n1_; have HB := n2_; clear n0_ n1_ n2_; (try clear hb); (try clear hb2); (try clear hk); (try clear hi)) | ((with_reducible refine gate_dst (N := 5) rfl ?_); refine box_event ?hg (N := 5) ?hd (cs := #[.int .i64 0, .int .u64 0]) (t := 57) ?hr ?_; (case hd => rfl); (case hg => rfl); (case hr => first | (go_simp; done) | (go_simp; rfl)); intro gb167 hg w27 hbox hb; have n0_ := bb BK163 hb; have n1_ := bb BK164 hb; have n2_ := bs HB hb; have n3_ := Aside0.mk (hbox); have n4_ := bz HB hg; have n5_ := bz HB hg; have n6_ := bl BK163 hg; have n7_ := bg BK163 hg; have n8_ := bl BK164 hg; have n9_ := bg BK164 hg; clear BK163; clear BK164; clear HB; have BK163 := n0_; have BK164 := n1_; have HB := n2_; have BK167 := n3_; have GW167 := n4_; have GE167 := n5_; have NB163_167 := n6_; have NB167_163 := n7_; have NB164_167 := n8_; have NB167_164 := n9_; clear n0_ n1_ n2_ n3_ n4_ n5_ n6_ n7_ n8_ n9_; clear hb hbox hg; have hnb28 := NB167_163.out; have hnc28 := NB163_167.out; have hnb29 := NB167_164.out; have hnc29 := NB164_167.out; (try clear hcz25_0 hcz25_1 hfz25_0 hfz25_1); obtain ⟨hcz30_0, hcz30_1⟩ := cc2 BK167; obtain ⟨hfz30_0, hfz30_1⟩ := cf2 BK167))
    have n0_ : Aside0 (((w27.setCell ⟨gb167, 0, none⟩ (.int .i64 t165)).setCell ⟨gb167, 1, none⟩ (.int .u64 t166)).heap[gb163]? = some (.cells #[.int .i64 a0_0, .int .u64 a0_1] 33 (0, 0))) := ⟨by (with_reducible repeat (first | refine bN ?_ _ | refine bD ?_ | refine bA ?_ _ | refine blk_far ?_ NB163_167.out _)); exact BK163.out⟩
    have n1_ : Aside0 (((w27.setCell ⟨gb167, 0, none⟩ (.int .i64 t165)).setCell ⟨gb167, 1, none⟩ (.int .u64 t166)).heap[gb164]? = some (.cells #[.int .i64 0, .int .u64 0] 33 (0, 0))) := ⟨by (with_reducible repeat (first | refine bN ?_ _ | refine bD ?_ | refine bA ?_ _ | refine blk_far ?_ NB164_167.out _)); exact BK164.out⟩
    have n2_ : Aside0 (((w27.setCell ⟨gb167, 0, none⟩ (.int .i64 t165)).setCell ⟨gb167, 1, none⟩ (.int .u64 t166)).heap[gb167]? = some (.cells #[.int .i64 t165, .int .u64 t166] 57 (0, 0))) := ⟨by (with_reducible repeat (first | refine bN ?_ _ | refine bD ?_ | refine bA ?_ _)); refine blk_put (cs := #[.int .i64 t165, .int .u64 0]) ?_ 1 _ rfl; (with_reducible repeat (first | refine bN ?_ _ | refine bD ?_ | refine bA ?_ _)); refine blk_put (cs := #[.int .i64 0, .int .u64 0]) ?_ 0 _ rfl; (with_reducible repeat (first | refine bN ?_ _ | refine bD ?_ | refine bA ?_ _)); exact BK167.out⟩
    have n3_ : Aside0 (Below w.heap.size w ((w27.setCell ⟨gb167, 0, none⟩ (.int .i64 t165)).setCell ⟨gb167, 1, none⟩ (.int .u64 t166))) := ⟨by repeat (first | (with_reducible first | exact HB.out | apply below_alloc | apply pw_below_drewN | apply below_drew1 | refine below_set ?_ GE163.out | refine below_set ?_ GE164.out | refine below_set ?_ GE167.out) | exact HB.out)⟩
    (try clear BK163)
    (try clear BK164)
    (try clear BK167)
    (try clear HB)
    generalize ((w27.setCell ⟨gb167, 0, none⟩ (.int .i64 t165)).setCell ⟨gb167, 1, none⟩ (.int .u64 t166)) = w31 at n0_ n1_ n2_ n3_ ⊢
    have BK163 := n0_
    have BK164 := n1_
    have BK167 := n2_
    have HB := n3_
    clear n0_ n1_ n2_ n3_
    have n0_ := Aside0.mk (blk_drew BK163.out)
    have n1_ := Aside0.mk (blk_drew BK164.out)
    have n2_ := Aside0.mk (blk_drew BK167.out)
    have n3_ := Aside0.mk (below_drew1 HB.out)
    clear BK163
    clear BK164
    clear BK167
    clear HB
    have BK163 := n0_
    have BK164 := n1_
    have BK167 := n2_
    have HB := n3_
    clear n0_ n1_ n2_ n3_
    refine start_ (n := 9) (S := fun w' => w'.cell? ⟨gb167, 0, none⟩ = some (.int .i64 t165) ∧ w'.cell? ⟨gb167, 1, none⟩ = some (.int .u64 t166)) (ds := [8]) #[false, false, false, false, false, false, false, false, false] (by kernel_rfl) rfl rfl ⟨(blk_cell BK167.out 0).trans rfl, (blk_cell BK167.out 1).trans rfl⟩ (fun hHeld => ?_); refine with_tabW ring_Put.tab2 ring_Put.bits2 (fun HT_ HW_ => ?_)
    generalize w31.drew = w32 at BK163 BK164 BK167 HB hHeld ⊢
    refine pure_ (i := 0) (N := some 8) (v := ?_) (a' := ?_) #[true, false, false, false, false, false, false, false, false] rfl rfl (any_of HT_.out (by kernel_rfl)) (fun _ _ _ h => h) (Or.inl ⟨by rfl, ?_⟩) ?_ ?_
    rotate_left; focus (intro w'; go_simp; with_reducible rfl)
    rotate_left; focus (simp only [Act.put, List.setIfInBounds_toArray, List.set_cons_zero, List.set_cons_succ, i64_w, i32_w]; rfl)
    refine pure_ (i := 1) (N := some 9) (v := ?_) (a' := ?_) #[true, true, false, false, false, false, false, false, false] rfl rfl (any_of HT_.out (by kernel_rfl)) (fun _ _ _ h => h) (Or.inl ⟨by rfl, ?_⟩) ?_ ?_
    rotate_left; focus (intro w'; go_simp; with_reducible rfl)
    rotate_left; focus (simp only [Act.put, List.setIfInBounds_toArray, List.set_cons_zero, List.set_cons_succ, i64_w, i32_w]; rfl)
    refine take_ (i := 2) (N := some 10) (v := ?_) (a' := ?_) #[true, true, true, false, false, false, false, false, false] rfl rfl (take_ofW HT_.out HW_.out (by kernel_rfl)) (fun _ _ _ h => h) (Or.inl ⟨by rfl, ?_⟩) hHeld ?_ ?_
    rotate_left
    · rintro w' ⟨s0, s1⟩
      go_simp
      with_reducible rfl
    rotate_left; focus (simp only [Act.put, List.setIfInBounds_toArray, List.set_cons_zero, List.set_cons_succ, i64_w, i32_w]; rfl)
    refine pure_ (i := 3) (N := some 11) (v := ?_) (a' := ?_) #[true, true, true, true, false, false, false, false, false] rfl rfl (any_of HT_.out (by kernel_rfl)) (fun _ _ _ h => h) (Or.inl ⟨by rfl, ?_⟩) ?_ ?_
    rotate_left; focus (intro w'; go_simp; with_reducible rfl)
    rotate_left; focus (simp only [Act.put, List.setIfInBounds_toArray, List.set_cons_zero, List.set_cons_succ, i64_w, i32_w]; rfl)
    refine one_ (i := 4) (N := some 12) #[true, true, true, true, true, false, false, false, false] rfl rfl (one_of HT_.out (by kernel_rfl)) (by decide) (fun K hK => ?_)
    refine goes_ Try.func29 (by kernel_rfl) rfl #[.int .i64 60] (by rfl) rfl rfl (by (try simp only [List.map_toArray, List.map_cons, List.map_nil]); first | done | rfl | (simp only [List.length_drop, List.length_take]; rfl)) ?_
    with_reducible refine (ring_mask.calls 60 t168 _ A4.out).mono ?_
    rintro e w' ⟨rfl, ⟨nd, rfl⟩⟩
    refine ⟨_, rfl, ?_⟩
    refine hK.out _ _ ⟨(blk_cell BK167.out 0).trans rfl, (blk_cell BK167.out 1).trans rfl⟩ (fun hHeld => ?_)
    clear hK K
    refine norm_ (a' := ?_) ?_ ?_
    rotate_left
    · show Act.put _ (some 12) _ = _
      simp only [Act.put, List.setIfInBounds_toArray, List.set_cons_zero, List.set_cons_succ, i64_w, i32_w]
      rfl
    refine pure_ (i := 5) (N := some 13) (v := ?_) (a' := ?_) #[true, true, true, true, true, true, false, false, false] rfl rfl (any_of HT_.out (by kernel_rfl)) (fun _ _ _ h => h) (Or.inl ⟨by rfl, ?_⟩) ?_ ?_
    rotate_left; focus (intro w'; go_simp; with_reducible rfl)
    rotate_left; focus (simp only [Act.put, List.setIfInBounds_toArray, List.set_cons_zero, List.set_cons_succ, i64_w, i32_w]; rfl)
    refine pure_ (i := 6) (N := some 14) (v := ?_) (a' := ?_) #[true, true, true, true, true, true, true, false, false] rfl rfl (any_of HT_.out (by kernel_rfl)) (fun _ _ _ h => h) (Or.inl ⟨by rfl, ?_⟩) ?_ ?_
    rotate_left; focus (intro w'; go_simp; with_reducible rfl)
    rotate_left; focus (simp only [Act.put, List.setIfInBounds_toArray, List.set_cons_zero, List.set_cons_succ, i64_w, i32_w]; rfl)
    refine pure_ (i := 7) (N := some 15) (v := ?_) (a' := ?_) #[true, true, true, true, true, true, true, true, false] rfl rfl (any_of HT_.out (by kernel_rfl)) (fun _ _ _ h => h) (Or.inl ⟨by rfl, ?_⟩) ?_ ?_
    rotate_left; focus (intro w'; go_simp; with_reducible rfl)
    rotate_left; focus (simp only [Act.put, List.setIfInBounds_toArray, List.set_cons_zero, List.set_cons_succ, i64_w, i32_w]; rfl)
    refine last_ (i := 8) (N := none) #[true, true, true, true, true, true, true, true, true] rfl rfl (one_of HT_.out (by kernel_rfl)) (by decide) (fun K hK => ?_)
    have hs33 : w32.cell? ⟨gb167, 1, none⟩ = some (.int .u64 t166) := (blk_cell BK167.out 1).trans rfl
    have hfs33 := blk_frozen BK167.out 1
    have hns33_0 := NB163_167.out
    have hns33_1 := NB164_167.out
    have hms33_0 := NB167_163.out
    have hms33_1 := NB167_164.out
    refine skip_ (w1 := ?_) (by rfl) rfl ?_ ?_
    rotate_left
    · go_simp
      rfl
    refine hK.out _ _ ?_
    clear hK K
    refine done_ (done_of HT_.out (by kernel_rfl)) ?_
    obtain ⟨hcz34_0, hcz34_1⟩ := cc2 BK167
    obtain ⟨hfz34_0, hfz34_1⟩ := cf2 BK167
    obtain ⟨hcz35_0, hcz35_1⟩ := cc2 BK164
    obtain ⟨hfz35_0, hfz35_1⟩ := cf2 BK164
    try go_wp2
    refine bodyPost_ret (results_cell_row rfl _ _ gb164 33 #[.int .i64 ji21, .int .u64 (Go.bits .and .u64 (IntKind.u64.wrap (t166 * 2)) t168)] (0, 0) _ rfl (by (with_reducible repeat (first | refine bN ?_ _ | refine bD ?_ | refine bA ?_ _)); refine blk_put (cs := #[.int .i64 ji21, .int .u64 0]) ?_ 1 _ rfl; (with_reducible repeat (first | refine bN ?_ _ | refine bD ?_ | refine bA ?_ _)); refine blk_put (cs := #[.int .i64 0, .int .u64 0]) ?_ 0 _ rfl; (with_reducible repeat (first | refine bN ?_ _ | refine bD ?_ | refine bA ?_ _ | refine blk_far ?_ NB164_167.out _)); exact BK164.out) Try.underlying33 rfl (by kernel_rfl)) rfl ?_
    exact ⟨by first | rfl | (simp [errW_none, errW_some] <;> rfl) | (simp only [← hji21]; first | rfl | (simp [errW_none, errW_some] <;> rfl)) | (simp [*, errW_none, errW_some] <;> rfl) | (exfalso; contradiction), by repeat (first | (with_reducible first | exact HB.out | apply below_alloc | apply pw_below_drewN | apply below_drew1 | refine below_set ?_ GE163.out | refine below_set ?_ GE164.out | refine below_set ?_ GE167.out) | exact HB.out)⟩

end Go.Proofs.Ytceldebkpjgmkaa.P
