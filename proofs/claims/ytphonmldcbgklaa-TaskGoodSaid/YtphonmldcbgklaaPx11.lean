-- Written by a program of this session (hprint.py), out of the translation; functions that the print does not take are given by hand.
import Derived.Test.YtphonmldcbgklaaPx0
import Derived.Test.YtphonmldcbgklaaPx5
import Derived.Test.YtphonmldcbgklaaPx8
namespace Go.Proofs.Ytphonmldcbgklaa.P
open Go.RowKit Go.Proofs.YtphonmldcbgklaaM Go.Proofs.YtphonmldcbgklaaW.PrintWords Go.Proofs.YtphonmldcbgklaaW.PrintLast Go.Proofs.YtphonmldcbgklaaW.PrintMore
attribute [local go_sem] max2_int min2_int max_two min_two max_three min_three max_four min_four   -- for this text's walks alone
set_option linter.unusedVariables false
set_option linter.unusedSimpArgs false

/-! ### job_New: function 21 -/
def job_New.f (a0_0 : Int) (a0_1 : Int) (a0_2 : Int) (a0_3 : Int) (a0_4 : Int) (a0_5 : Int) (a1 : Int) (a2 : Int) (a3 : Int) (a4 : Int) : Option (Bool × Int × Int × Int × Bool × Int × Int × Int × Bool) := (pat_On.f a0_3 a0_4 a1).bind fun t148 => ((job_May.f a0_0 a0_1 a0_2 a0_3 a0_4 a0_5 true a1 a2 a3 t148 a0_0 a4 0).bind fun t150 => (if t150 = true then (some (true, a1, a2, a3, t148, a0_0, a4, 0, true)) else (some (false, 0, 0, 0, false, 0, 0, 0, false))))
def job_New.T1 : Bool × List (List Nat × List Nat) := (true, [([], []), ([], []), ([], []), ([], []), ([3], [3]), ([], []), ([5], [5]), ([], []), ([4, 6, 7], [4, 6, 7]), ([], []), ([9], [9]), ([], []), ([0, 1, 2, 8, 10, 11], [0, 1, 2, 8, 10, 11]), ([], []), ([13, 12, 8, 0, 1, 2, 3, 4, 5, 6, 7, 8, 9, 10, 11, 12, 13], [12, 13])])
def job_New.B1 : List Nat := [0, 0, 0, 0, 8, 0, 32, 0, 248, 0, 512, 0, 4095, 0, 16383]
theorem job_New.tab1 : rtab .any (opsOf Try.f21 1) = job_New.T1 := by kernel_rfl
theorem job_New.bits1 : waitsOk job_New.T1.2 job_New.B1 = true := by kernel_rfl
set_option maxHeartbeats 64000000 in
set_option maxRecDepth 100000 in
theorem job_New.calls (a0_0 : Int) (a0_1 : Int) (a0_2 : Int) (a0_3 : Int) (a0_4 : Int) (a0_5 : Int) (a1 : Int) (a2 : Int) (a3 : Int) (a4 : Int) (r1 : Bool) (r2 : Int) (r3 : Int) (r4 : Int) (r5 : Bool) (r6 : Int) (r7 : Int) (r8 : Int) (r9 : Bool) (w : World) (h : job_New.f a0_0 a0_1 a0_2 a0_3 a0_4 a0_5 a1 a2 a3 a4 = some (r1, r2, r3, r4, r5, r6, r7, r8, r9)) :
    Calls Try.prog 21 #[.agg #[.int .i64 a0_0, .int .i64 a0_1, .int .i64 a0_2, .int .i64 a0_3, .int .i64 a0_4, .int .i64 a0_5], .int .i64 a1, .int .i64 a2, .int .i64 a3, .int .i64 a4] w fun e w' => e = .returned (.tuple #[.agg #[.bool r1, .int .i64 r2, .int .i64 r3, .int .i64 r4, .bool r5, .int .i64 r6, .int .i64 r7, .int .i64 r8], .bool r9]) ∧ Below w.heap.size w w' := by
  have hu23 := Try.underlying23
  have hu25 := Try.underlying25
  have HB := Aside0.mk (Below.refl w.heap.size w)
  have H : ((pat_On.f a0_3 a0_4 a1).bind fun t148 => ((job_May.f a0_0 a0_1 a0_2 a0_3 a0_4 a0_5 true a1 a2 a3 t148 a0_0 a4 0).bind fun t150 => (if t150 = true then (some (true, a1, a2, a3, t148, a0_0, a4, 0, true)) else (some (false, 0, 0, 0, false, 0, 0, 0, false))))) = some (r1, r2, r3, r4, r5, r6, r7, r8, r9) := h
  clear h
  replace H := Option.bind_eq_some_iff.mp H
  obtain ⟨t148, A60, H⟩ := H
  try dsimp only at H
  have A6 := Aside0.mk A60
  clear A60
  replace H := Option.bind_eq_some_iff.mp H
  obtain ⟨t150, A70, H⟩ := H
  try dsimp only at H
  have A7 := Aside0.mk A70
  clear A70
  by_cases c8 : t150 = true
  · subst c8
    rw [if_pos rfl] at H
    simp only [Option.some.injEq, Prod.mk.injEq] at H
    obtain ⟨rfl, rfl, rfl, rfl, rfl, rfl, rfl, rfl, rfl⟩ := H
    go_enter Try.func21, Try.ntmps21
    try go_wp2_with (first | ((with_reducible refine gate_dst (N := 5) rfl ?_); refine box_event ?hg (N := 5) ?hd (cs := #[.int .i64 a0_0, .int .i64 a0_1, .int .i64 a0_2, .int .i64 a0_3, .int .i64 a0_4, .int .i64 a0_5]) (t := 23) ?hr ?_; (case hd => rfl); (case hg => rfl); (case hr => first | (go_simp; done) | (go_simp; rfl)); intro gb146 hg w9 hbox hb; have n0_ := bs HB hb; have n1_ := Aside0.mk (hbox); have n2_ := bz HB hg; have n3_ := bz HB hg; clear HB; have HB := n0_; have BK146 := n1_; have GW146 := n2_; have GE146 := n3_; clear n0_ n1_ n2_ n3_; clear hb hbox hg) | ((with_reducible refine gate_dst (N := 10) rfl ?_); refine box_event ?hg (N := 10) ?hd (cs := #[.bool false, .int .i64 0, .int .i64 0, .int .i64 0, .bool false, .int .i64 0, .int .i64 0, .int .i64 0]) (t := 25) ?hr ?_; (case hd => rfl); (case hg => rfl); (case hr => first | (go_simp; done) | (go_simp; rfl)); intro gb147 hg w10 hbox hb; have n0_ := bb BK146 hb; have n1_ := bs HB hb; have n2_ := Aside0.mk (hbox); have n3_ := bz HB hg; have n4_ := bz HB hg; have n5_ := bl BK146 hg; have n6_ := bg BK146 hg; clear BK146; clear HB; have BK146 := n0_; have HB := n1_; have BK147 := n2_; have GW147 := n3_; have GE147 := n4_; have NB146_147 := n5_; have NB147_146 := n6_; clear n0_ n1_ n2_ n3_ n4_ n5_ n6_; clear hb hbox hg))
    have n0_ := Aside0.mk (blk_drew BK146.out)
    have n1_ := Aside0.mk (blk_drew BK147.out)
    have n2_ := Aside0.mk (below_drew1 HB.out)
    clear BK146
    clear BK147
    clear HB
    have BK146 := n0_
    have BK147 := n1_
    have HB := n2_
    clear n0_ n1_ n2_
    refine start_ (n := 15) (S := fun w' => w'.cell? ⟨gb146, 0, none⟩ = some (.int .i64 a0_0) ∧ w'.cell? ⟨gb146, 1, none⟩ = some (.int .i64 a0_1) ∧ w'.cell? ⟨gb146, 2, none⟩ = some (.int .i64 a0_2) ∧ w'.cell? ⟨gb146, 3, none⟩ = some (.int .i64 a0_3) ∧ w'.cell? ⟨gb146, 4, none⟩ = some (.int .i64 a0_4) ∧ w'.cell? ⟨gb146, 5, none⟩ = some (.int .i64 a0_5)) (ds := []) #[false, false, false, false, false, false, false, false, false, false, false, false, false, false, false] (by kernel_rfl) rfl rfl ⟨(blk_cell BK146.out 0).trans rfl, (blk_cell BK146.out 1).trans rfl, (blk_cell BK146.out 2).trans rfl, (blk_cell BK146.out 3).trans rfl, (blk_cell BK146.out 4).trans rfl, (blk_cell BK146.out 5).trans rfl⟩ (fun hHeld => ?_); refine with_tabW job_New.tab1 job_New.bits1 (fun HT_ HW_ => ?_)
    generalize w10.drew = w11 at BK146 BK147 HB hHeld ⊢
    refine pure_ (i := 0) (N := some 13) (v := ?_) (a' := ?_) #[true, false, false, false, false, false, false, false, false, false, false, false, false, false, false] rfl rfl (any_of HT_.out (by kernel_rfl)) (fun _ _ _ h => h) (Or.inl ⟨by rfl, ?_⟩) ?_ ?_
    rotate_left; focus (intro w'; go_simp; with_reducible rfl)
    rotate_left; focus (simp only [Act.put, List.setIfInBounds_toArray, List.set_cons_zero, List.set_cons_succ, i64_w, i32_w]; rfl)
    refine pure_ (i := 1) (N := some 14) (v := ?_) (a' := ?_) #[true, true, false, false, false, false, false, false, false, false, false, false, false, false, false] rfl rfl (any_of HT_.out (by kernel_rfl)) (fun _ _ _ h => h) (Or.inl ⟨by rfl, ?_⟩) ?_ ?_
    rotate_left; focus (intro w'; go_simp; with_reducible rfl)
    rotate_left; focus (simp only [Act.put, List.setIfInBounds_toArray, List.set_cons_zero, List.set_cons_succ, i64_w, i32_w]; rfl)
    refine pure_ (i := 2) (N := some 15) (v := ?_) (a' := ?_) #[true, true, true, false, false, false, false, false, false, false, false, false, false, false, false] rfl rfl (any_of HT_.out (by kernel_rfl)) (fun _ _ _ h => h) (Or.inl ⟨by rfl, ?_⟩) ?_ ?_
    rotate_left; focus (intro w'; go_simp; with_reducible rfl)
    rotate_left; focus (simp only [Act.put, List.setIfInBounds_toArray, List.set_cons_zero, List.set_cons_succ, i64_w, i32_w]; rfl)
    refine pure_ (i := 3) (N := some 16) (v := ?_) (a' := ?_) #[true, true, true, true, false, false, false, false, false, false, false, false, false, false, false] rfl rfl (any_of HT_.out (by kernel_rfl)) (fun _ _ _ h => h) (Or.inl ⟨by rfl, ?_⟩) ?_ ?_
    rotate_left; focus (intro w'; go_simp; with_reducible rfl)
    rotate_left; focus (simp only [Act.put, List.setIfInBounds_toArray, List.set_cons_zero, List.set_cons_succ, i64_w, i32_w]; rfl)
    refine pure_ (i := 5) (N := some 18) (v := ?_) (a' := ?_) #[true, true, true, true, false, true, false, false, false, false, false, false, false, false, false] rfl rfl (any_of HT_.out (by kernel_rfl)) (fun _ _ _ h => h) (Or.inl ⟨by rfl, ?_⟩) ?_ ?_
    rotate_left; focus (intro w'; go_simp; with_reducible rfl)
    rotate_left; focus (simp only [Act.put, List.setIfInBounds_toArray, List.set_cons_zero, List.set_cons_succ, i64_w, i32_w]; rfl)
    refine pure_ (i := 7) (N := some 20) (v := ?_) (a' := ?_) #[true, true, true, true, false, true, false, true, false, false, false, false, false, false, false] rfl rfl (any_of HT_.out (by kernel_rfl)) (fun _ _ _ h => h) (Or.inl ⟨by rfl, ?_⟩) ?_ ?_
    rotate_left; focus (intro w'; go_simp; with_reducible rfl)
    rotate_left; focus (simp only [Act.put, List.setIfInBounds_toArray, List.set_cons_zero, List.set_cons_succ, i64_w, i32_w]; rfl)
    refine pure_ (i := 9) (N := some 22) (v := ?_) (a' := ?_) #[true, true, true, true, false, true, false, true, false, true, false, false, false, false, false] rfl rfl (any_of HT_.out (by kernel_rfl)) (fun _ _ _ h => h) (Or.inl ⟨by rfl, ?_⟩) ?_ ?_
    rotate_left; focus (intro w'; go_simp; with_reducible rfl)
    rotate_left; focus (simp only [Act.put, List.setIfInBounds_toArray, List.set_cons_zero, List.set_cons_succ, i64_w, i32_w]; rfl)
    refine pure_ (i := 11) (N := some 24) (v := ?_) (a' := ?_) #[true, true, true, true, false, true, false, true, false, true, false, true, false, false, false] rfl rfl (any_of HT_.out (by kernel_rfl)) (fun _ _ _ h => h) (Or.inl ⟨by rfl, ?_⟩) ?_ ?_
    rotate_left; focus (intro w'; go_simp; with_reducible rfl)
    rotate_left; focus (simp only [Act.put, List.setIfInBounds_toArray, List.set_cons_zero, List.set_cons_succ, i64_w, i32_w]; rfl)
    refine take_ (i := 4) (N := some 17) (v := ?_) (a' := ?_) #[true, true, true, true, true, true, false, true, false, true, false, true, false, false, false] rfl rfl (take_ofW HT_.out HW_.out (by kernel_rfl)) (fun _ _ _ h => h) (Or.inl ⟨by rfl, ?_⟩) hHeld ?_ ?_
    rotate_left
    · rintro w' ⟨s0, s1, s2, s3, s4, s5⟩
      go_simp
      with_reducible rfl
    rotate_left; focus (simp only [Act.put, List.setIfInBounds_toArray, List.set_cons_zero, List.set_cons_succ, i64_w, i32_w]; rfl)
    refine take_ (i := 6) (N := some 19) (v := ?_) (a' := ?_) #[true, true, true, true, true, true, true, true, false, true, false, true, false, false, false] rfl rfl (take_ofW HT_.out HW_.out (by kernel_rfl)) (fun _ _ _ h => h) (Or.inl ⟨by rfl, ?_⟩) hHeld ?_ ?_
    rotate_left
    · rintro w' ⟨s0, s1, s2, s3, s4, s5⟩
      go_simp
      with_reducible rfl
    rotate_left; focus (simp only [Act.put, List.setIfInBounds_toArray, List.set_cons_zero, List.set_cons_succ, i64_w, i32_w]; rfl)
    refine take_ (i := 10) (N := some 23) (v := ?_) (a' := ?_) #[true, true, true, true, true, true, true, true, false, true, true, true, false, false, false] rfl rfl (take_ofW HT_.out HW_.out (by kernel_rfl)) (fun _ _ _ h => h) (Or.inl ⟨by rfl, ?_⟩) hHeld ?_ ?_
    rotate_left
    · rintro w' ⟨s0, s1, s2, s3, s4, s5⟩
      go_simp
      with_reducible rfl
    rotate_left; focus (simp only [Act.put, List.setIfInBounds_toArray, List.set_cons_zero, List.set_cons_succ, i64_w, i32_w]; rfl)
    refine join_ (σ := Nat) 1 #[true, true, true, true, true, true, true, true, true, true, true, true, true, true, false] (fun s_ => [(21, .bool t148), (12, .pointer (some ⟨s_, 0, none⟩)), (25, .agg #[.bool true, .int .i64 a1, .int .i64 a2, .int .i64 a3, .bool t148, .int .i64 a0_0, .int .i64 a4, .int .i64 0])]) (fun s_ w' => (w'.cell? ⟨gb146, 0, none⟩ = some (.int .i64 a0_0) ∧ w'.cell? ⟨gb146, 1, none⟩ = some (.int .i64 a0_1) ∧ w'.cell? ⟨gb146, 2, none⟩ = some (.int .i64 a0_2) ∧ w'.cell? ⟨gb146, 3, none⟩ = some (.int .i64 a0_3) ∧ w'.cell? ⟨gb146, 4, none⟩ = some (.int .i64 a0_4) ∧ w'.cell? ⟨gb146, 5, none⟩ = some (.int .i64 a0_5)) ∧ (w'.heap[gb146]? = some (.cells #[.int .i64 a0_0, .int .i64 a0_1, .int .i64 a0_2, .int .i64 a0_3, .int .i64 a0_4, .int .i64 a0_5] 23 (0, 0))) ∧ (w'.heap[gb147]? = some (.cells #[.bool false, .int .i64 0, .int .i64 0, .int .i64 0, .bool false, .int .i64 0, .int .i64 0, .int .i64 0] 25 (0, 0))) ∧ (w'.heap[s_]? = some (.cells #[.bool false, .int .i64 0, .int .i64 0, .int .i64 0, .bool false, .int .i64 0, .int .i64 0, .int .i64 0] 25 (0, 0))) ∧ (w.heap.size ≤ s_) ∧ (w.heap.size ≤ s_) ∧ (gb146 ≠ s_) ∧ (s_ ≠ gb146) ∧ (gb147 ≠ s_) ∧ (s_ ≠ gb147) ∧ (Below w.heap.size w w')) ?_ ?_
    rotate_left
    · intro hCont
      refine two_ (i := 8) (j := 13) (Ni := some 21) (Nj := some 12) #[true, true, true, true, true, true, true, true, true, true, true, true, false, false, false] #[true, true, true, true, true, true, true, true, false, true, true, true, false, true, false] rfl rfl rfl rfl (two_of HT_.out (by kernel_rfl)) (by decide) (by decide) (fun K hK => ?_) (fun K hK => ?_)
      · skip
        refine goes_ Try.func10 (by kernel_rfl) rfl #[.int .i64 a0_3, .int .i64 a0_4, .int .i64 a1] (by rfl) rfl rfl (by (try simp only [List.map_toArray, List.map_cons, List.map_nil]); first | done | rfl | (simp only [List.length_drop, List.length_take]; rfl)) ?_
        with_reducible refine (pat_On.calls a0_3 a0_4 a1 t148 _ A6.out).mono ?_
        rintro e w12 ⟨rfl, hb⟩
        refine ⟨_, rfl, ?_⟩
        have n0_ := bb BK146 hb
        have n1_ := bb BK147 hb
        have n2_ := bs HB hb
        clear BK146
        clear BK147
        clear HB
        have BK146 := n0_
        have BK147 := n1_
        have HB := n2_
        clear n0_ n1_ n2_
        (try clear hb)
        (try clear hb2)
        (try clear hk)
        (try clear hi)
        refine hK.out _ _ ⟨(blk_cell BK146.out 0).trans rfl, (blk_cell BK146.out 1).trans rfl, (blk_cell BK146.out 2).trans rfl, (blk_cell BK146.out 3).trans rfl, (blk_cell BK146.out 4).trans rfl, (blk_cell BK146.out 5).trans rfl⟩ (fun hHeld => ?_)
        clear hK K
        refine norm_ (a' := ?_) ?_ ?_
        rotate_left
        · show Act.put _ (some 21) _ = _
          simp only [Act.put, List.setIfInBounds_toArray, List.set_cons_zero, List.set_cons_succ, i64_w, i32_w]
          rfl
        refine pure_ (i := 12) (N := some 25) (v := ?_) (a' := ?_) #[true, true, true, true, true, true, true, true, true, true, true, true, true, false, false] rfl rfl (any_of HT_.out (by kernel_rfl)) (fun _ _ _ h => h) (Or.inl ⟨by rfl, ?_⟩) ?_ ?_
        rotate_left; focus (intro w'; go_simp; with_reducible rfl)
        rotate_left; focus (simp only [Act.put, List.setIfInBounds_toArray, List.set_cons_zero, List.set_cons_succ, i64_w, i32_w]; rfl)
        refine one_ (i := 13) (N := some 12) #[true, true, true, true, true, true, true, true, true, true, true, true, true, true, false] rfl rfl (one_of HT_.out (by kernel_rfl)) (by decide) (fun K hK => ?_)
        refine box_step ?hg (N := 12) ?hd (cs := #[.bool false, .int .i64 0, .int .i64 0, .int .i64 0, .bool false, .int .i64 0, .int .i64 0, .int .i64 0]) (t := 25) ?hr ?_; (case hd => rfl); (case hg => rfl); (case hr => first | (go_simp; done) | (go_simp; rfl))
        intro gb149 hg w13 hbox hb
        have n0_ := bb BK146 hb
        have n1_ := bb BK147 hb
        have n2_ := bs HB hb
        have n3_ := Aside0.mk (hbox)
        have n4_ := bz HB hg
        have n5_ := bz HB hg
        have n6_ := bl BK146 hg
        have n7_ := bg BK146 hg
        have n8_ := bl BK147 hg
        have n9_ := bg BK147 hg
        clear BK146
        clear BK147
        clear HB
        have BK146 := n0_
        have BK147 := n1_
        have HB := n2_
        have BK149 := n3_
        have GW149 := n4_
        have GE149 := n5_
        have NB146_149 := n6_
        have NB149_146 := n7_
        have NB147_149 := n8_
        have NB149_147 := n9_
        clear n0_ n1_ n2_ n3_ n4_ n5_ n6_ n7_ n8_ n9_
        clear hb hbox hg
        refine hK.out _ _ ⟨(blk_cell BK146.out 0).trans rfl, (blk_cell BK146.out 1).trans rfl, (blk_cell BK146.out 2).trans rfl, (blk_cell BK146.out 3).trans rfl, (blk_cell BK146.out 4).trans rfl, (blk_cell BK146.out 5).trans rfl⟩ (fun hHeld => ?_)
        clear hK K
        refine norm_ (a' := ?_) ?_ ?_
        rotate_left
        · show Act.put _ (some 12) _ = _
          simp only [Act.put, List.setIfInBounds_toArray, List.set_cons_zero, List.set_cons_succ, i64_w, i32_w]
          rfl
        exact norm_ (by simp only [putAll, Act.put, List.setIfInBounds_toArray, List.set_cons_zero, List.set_cons_succ]) (hCont (gb149) _ ⟨hHeld, (by (with_reducible repeat (first | refine bN ?_ _ | refine bD ?_ | refine bA ?_ _)); exact BK146.out), (by (with_reducible repeat (first | refine bN ?_ _ | refine bD ?_ | refine bA ?_ _)); exact BK147.out), (by (with_reducible repeat (first | refine bN ?_ _ | refine bD ?_ | refine bA ?_ _)); exact BK149.out), GW149.out, GE149.out, NB146_149.out, NB149_146.out, NB147_149.out, NB149_147.out, (by repeat (first | (with_reducible first | exact HB.out | apply below_alloc | apply pw_below_drewN | apply below_drew1 | refine below_set ?_ GE146.out | refine below_set ?_ GE147.out | refine below_set ?_ GE149.out) | exact HB.out))⟩)
      · skip
        refine box_step ?hg (N := 12) ?hd (cs := #[.bool false, .int .i64 0, .int .i64 0, .int .i64 0, .bool false, .int .i64 0, .int .i64 0, .int .i64 0]) (t := 25) ?hr ?_; (case hd => rfl); (case hg => rfl); (case hr => first | (go_simp; done) | (go_simp; rfl))
        intro gb149 hg w12 hbox hb
        have n0_ := bb BK146 hb
        have n1_ := bb BK147 hb
        have n2_ := bs HB hb
        have n3_ := Aside0.mk (hbox)
        have n4_ := bz HB hg
        have n5_ := bz HB hg
        have n6_ := bl BK146 hg
        have n7_ := bg BK146 hg
        have n8_ := bl BK147 hg
        have n9_ := bg BK147 hg
        clear BK146
        clear BK147
        clear HB
        have BK146 := n0_
        have BK147 := n1_
        have HB := n2_
        have BK149 := n3_
        have GW149 := n4_
        have GE149 := n5_
        have NB146_149 := n6_
        have NB149_146 := n7_
        have NB147_149 := n8_
        have NB149_147 := n9_
        clear n0_ n1_ n2_ n3_ n4_ n5_ n6_ n7_ n8_ n9_
        clear hb hbox hg
        refine hK.out _ _ ⟨(blk_cell BK146.out 0).trans rfl, (blk_cell BK146.out 1).trans rfl, (blk_cell BK146.out 2).trans rfl, (blk_cell BK146.out 3).trans rfl, (blk_cell BK146.out 4).trans rfl, (blk_cell BK146.out 5).trans rfl⟩ (fun hHeld => ?_)
        clear hK K
        refine norm_ (a' := ?_) ?_ ?_
        rotate_left
        · show Act.put _ (some 12) _ = _
          simp only [Act.put, List.setIfInBounds_toArray, List.set_cons_zero, List.set_cons_succ, i64_w, i32_w]
          rfl
        refine one_ (i := 8) (N := some 21) #[true, true, true, true, true, true, true, true, true, true, true, true, false, true, false] rfl rfl (one_of HT_.out (by kernel_rfl)) (by decide) (fun K hK => ?_)
        refine goes_ Try.func10 (by kernel_rfl) rfl #[.int .i64 a0_3, .int .i64 a0_4, .int .i64 a1] (by rfl) rfl rfl (by (try simp only [List.map_toArray, List.map_cons, List.map_nil]); first | done | rfl | (simp only [List.length_drop, List.length_take]; rfl)) ?_
        with_reducible refine (pat_On.calls a0_3 a0_4 a1 t148 _ A6.out).mono ?_
        rintro e w13 ⟨rfl, hb⟩
        refine ⟨_, rfl, ?_⟩
        have n0_ := bb BK146 hb
        have n1_ := bb BK147 hb
        have n2_ := bb BK149 hb
        have n3_ := bs HB hb
        clear BK146
        clear BK147
        clear BK149
        clear HB
        have BK146 := n0_
        have BK147 := n1_
        have BK149 := n2_
        have HB := n3_
        clear n0_ n1_ n2_ n3_
        (try clear hb)
        (try clear hb2)
        (try clear hk)
        (try clear hi)
        refine hK.out _ _ ⟨(blk_cell BK146.out 0).trans rfl, (blk_cell BK146.out 1).trans rfl, (blk_cell BK146.out 2).trans rfl, (blk_cell BK146.out 3).trans rfl, (blk_cell BK146.out 4).trans rfl, (blk_cell BK146.out 5).trans rfl⟩ (fun hHeld => ?_)
        clear hK K
        refine norm_ (a' := ?_) ?_ ?_
        rotate_left
        · show Act.put _ (some 21) _ = _
          simp only [Act.put, List.setIfInBounds_toArray, List.set_cons_zero, List.set_cons_succ, i64_w, i32_w]
          rfl
        refine pure_ (i := 12) (N := some 25) (v := ?_) (a' := ?_) #[true, true, true, true, true, true, true, true, true, true, true, true, true, true, false] rfl rfl (any_of HT_.out (by kernel_rfl)) (fun _ _ _ h => h) (Or.inl ⟨by rfl, ?_⟩) ?_ ?_
        rotate_left; focus (intro w'; go_simp; with_reducible rfl)
        rotate_left; focus (simp only [Act.put, List.setIfInBounds_toArray, List.set_cons_zero, List.set_cons_succ, i64_w, i32_w]; rfl)
        exact norm_ (by simp only [putAll, Act.put, List.setIfInBounds_toArray, List.set_cons_zero, List.set_cons_succ]) (hCont (gb149) _ ⟨hHeld, (by (with_reducible repeat (first | refine bN ?_ _ | refine bD ?_ | refine bA ?_ _)); exact BK146.out), (by (with_reducible repeat (first | refine bN ?_ _ | refine bD ?_ | refine bA ?_ _)); exact BK147.out), (by (with_reducible repeat (first | refine bN ?_ _ | refine bD ?_ | refine bA ?_ _)); exact BK149.out), GW149.out, GE149.out, NB146_149.out, NB149_146.out, NB147_149.out, NB149_147.out, (by repeat (first | (with_reducible first | exact HB.out | apply below_alloc | apply pw_below_drewN | apply below_drew1 | refine below_set ?_ GE146.out | refine below_set ?_ GE147.out | refine below_set ?_ GE149.out) | exact HB.out))⟩)
    rintro gb149 w14 ⟨hS_, h0_, h1_, h2_, h3_, h4_, h5_, h6_, h7_, h8_, h9_⟩
    have n0_ : Aside0 (w14.heap[gb146]? = some (.cells #[.int .i64 a0_0, .int .i64 a0_1, .int .i64 a0_2, .int .i64 a0_3, .int .i64 a0_4, .int .i64 a0_5] 23 (0, 0))) := ⟨h0_⟩
    have n1_ : Aside0 (w14.heap[gb147]? = some (.cells #[.bool false, .int .i64 0, .int .i64 0, .int .i64 0, .bool false, .int .i64 0, .int .i64 0, .int .i64 0] 25 (0, 0))) := ⟨h1_⟩
    have n2_ : Aside0 (w14.heap[gb149]? = some (.cells #[.bool false, .int .i64 0, .int .i64 0, .int .i64 0, .bool false, .int .i64 0, .int .i64 0, .int .i64 0] 25 (0, 0))) := ⟨h2_⟩
    have n3_ : Aside0 (w.heap.size ≤ gb149) := ⟨h3_⟩
    have n4_ : Aside0 (w.heap.size ≤ gb149) := ⟨h4_⟩
    have n5_ : Aside0 (gb146 ≠ gb149) := ⟨h5_⟩
    have n6_ : Aside0 (gb149 ≠ gb146) := ⟨h6_⟩
    have n7_ : Aside0 (gb147 ≠ gb149) := ⟨h7_⟩
    have n8_ : Aside0 (gb149 ≠ gb147) := ⟨h8_⟩
    have n9_ : Aside0 (Below w.heap.size w w14) := ⟨h9_⟩
    clear BK146
    clear BK147
    clear HB
    clear h0_ h1_ h2_ h3_ h4_ h5_ h6_ h7_ h8_ h9_
    have BK146 := n0_
    have BK147 := n1_
    have BK149 := n2_
    have GW149 := n3_
    have GE149 := n4_
    have NB146_149 := n5_
    have NB149_146 := n6_
    have NB147_149 := n7_
    have NB149_147 := n8_
    have HB := n9_
    clear n0_ n1_ n2_ n3_ n4_ n5_ n6_ n7_ n8_ n9_
    have hHeld : w14.cell? ⟨gb146, 0, none⟩ = some (.int .i64 a0_0) ∧ w14.cell? ⟨gb146, 1, none⟩ = some (.int .i64 a0_1) ∧ w14.cell? ⟨gb146, 2, none⟩ = some (.int .i64 a0_2) ∧ w14.cell? ⟨gb146, 3, none⟩ = some (.int .i64 a0_3) ∧ w14.cell? ⟨gb146, 4, none⟩ = some (.int .i64 a0_4) ∧ w14.cell? ⟨gb146, 5, none⟩ = some (.int .i64 a0_5) := hS_
    refine norm_ (a' := ?_) ?_ ?_
    rotate_left
    · simp only [putAll, Act.put, List.setIfInBounds_toArray, List.set_cons_zero, List.set_cons_succ]
      rfl
    refine one_ (i := 14) (N := none) #[true, true, true, true, true, true, true, true, true, true, true, true, true, true, true] rfl rfl (one_of HT_.out (by kernel_rfl)) (by decide) (fun K hK => ?_)
    have hs15 : w14.cell? ⟨gb149, 0, none⟩ = some (.bool false) := (blk_cell BK149.out 0).trans rfl
    have hfs15 := blk_frozen BK149.out 0
    have hns15_0 := NB146_149.out
    have hns15_1 := NB147_149.out
    have hms15_0 := NB149_146.out
    have hms15_1 := NB149_147.out
    have hs16 : w14.cell? ⟨gb149, 1, none⟩ = some (.int .i64 0) := (blk_cell BK149.out 1).trans rfl
    have hfs16 := blk_frozen BK149.out 1
    have hns16_0 := NB146_149.out
    have hns16_1 := NB147_149.out
    have hms16_0 := NB149_146.out
    have hms16_1 := NB149_147.out
    have hs17 : w14.cell? ⟨gb149, 2, none⟩ = some (.int .i64 0) := (blk_cell BK149.out 2).trans rfl
    have hfs17 := blk_frozen BK149.out 2
    have hns17_0 := NB146_149.out
    have hns17_1 := NB147_149.out
    have hms17_0 := NB149_146.out
    have hms17_1 := NB149_147.out
    have hs18 : w14.cell? ⟨gb149, 3, none⟩ = some (.int .i64 0) := (blk_cell BK149.out 3).trans rfl
    have hfs18 := blk_frozen BK149.out 3
    have hns18_0 := NB146_149.out
    have hns18_1 := NB147_149.out
    have hms18_0 := NB149_146.out
    have hms18_1 := NB149_147.out
    have hs19 : w14.cell? ⟨gb149, 4, none⟩ = some (.bool false) := (blk_cell BK149.out 4).trans rfl
    have hfs19 := blk_frozen BK149.out 4
    have hns19_0 := NB146_149.out
    have hns19_1 := NB147_149.out
    have hms19_0 := NB149_146.out
    have hms19_1 := NB149_147.out
    have hs20 : w14.cell? ⟨gb149, 5, none⟩ = some (.int .i64 0) := (blk_cell BK149.out 5).trans rfl
    have hfs20 := blk_frozen BK149.out 5
    have hns20_0 := NB146_149.out
    have hns20_1 := NB147_149.out
    have hms20_0 := NB149_146.out
    have hms20_1 := NB149_147.out
    have hs21 : w14.cell? ⟨gb149, 6, none⟩ = some (.int .i64 0) := (blk_cell BK149.out 6).trans rfl
    have hfs21 := blk_frozen BK149.out 6
    have hns21_0 := NB146_149.out
    have hns21_1 := NB147_149.out
    have hms21_0 := NB149_146.out
    have hms21_1 := NB149_147.out
    have hs22 : w14.cell? ⟨gb149, 7, none⟩ = some (.int .i64 0) := (blk_cell BK149.out 7).trans rfl
    have hfs22 := blk_frozen BK149.out 7
    have hns22_0 := NB146_149.out
    have hns22_1 := NB147_149.out
    have hms22_0 := NB149_146.out
    have hms22_1 := NB149_147.out
    refine skip_ (w1 := ?_) (by rfl) rfl ?_ ?_
    rotate_left
    · go_simp
      rfl
    refine hK.out _ _ ⟨((cell_far (p := ⟨gb149, _, none⟩) NB146_149.out _).trans (((cell_far (p := ⟨gb149, _, none⟩) NB146_149.out _).trans (((cell_far (p := ⟨gb149, _, none⟩) NB146_149.out _).trans (((cell_far (p := ⟨gb149, _, none⟩) NB146_149.out _).trans (((cell_far (p := ⟨gb149, _, none⟩) NB146_149.out _).trans (((cell_far (p := ⟨gb149, _, none⟩) NB146_149.out _).trans (((cell_far (p := ⟨gb149, _, none⟩) NB146_149.out _).trans (((cell_far (p := ⟨gb149, _, none⟩) NB146_149.out _).trans (hHeld.1)))))))))))))))), ((cell_far (p := ⟨gb149, _, none⟩) NB146_149.out _).trans (((cell_far (p := ⟨gb149, _, none⟩) NB146_149.out _).trans (((cell_far (p := ⟨gb149, _, none⟩) NB146_149.out _).trans (((cell_far (p := ⟨gb149, _, none⟩) NB146_149.out _).trans (((cell_far (p := ⟨gb149, _, none⟩) NB146_149.out _).trans (((cell_far (p := ⟨gb149, _, none⟩) NB146_149.out _).trans (((cell_far (p := ⟨gb149, _, none⟩) NB146_149.out _).trans (((cell_far (p := ⟨gb149, _, none⟩) NB146_149.out _).trans (hHeld.2.1)))))))))))))))), ((cell_far (p := ⟨gb149, _, none⟩) NB146_149.out _).trans (((cell_far (p := ⟨gb149, _, none⟩) NB146_149.out _).trans (((cell_far (p := ⟨gb149, _, none⟩) NB146_149.out _).trans (((cell_far (p := ⟨gb149, _, none⟩) NB146_149.out _).trans (((cell_far (p := ⟨gb149, _, none⟩) NB146_149.out _).trans (((cell_far (p := ⟨gb149, _, none⟩) NB146_149.out _).trans (((cell_far (p := ⟨gb149, _, none⟩) NB146_149.out _).trans (((cell_far (p := ⟨gb149, _, none⟩) NB146_149.out _).trans (hHeld.2.2.1)))))))))))))))), ((cell_far (p := ⟨gb149, _, none⟩) NB146_149.out _).trans (((cell_far (p := ⟨gb149, _, none⟩) NB146_149.out _).trans (((cell_far (p := ⟨gb149, _, none⟩) NB146_149.out _).trans (((cell_far (p := ⟨gb149, _, none⟩) NB146_149.out _).trans (((cell_far (p := ⟨gb149, _, none⟩) NB146_149.out _).trans (((cell_far (p := ⟨gb149, _, none⟩) NB146_149.out _).trans (((cell_far (p := ⟨gb149, _, none⟩) NB146_149.out _).trans (((cell_far (p := ⟨gb149, _, none⟩) NB146_149.out _).trans (hHeld.2.2.2.1)))))))))))))))), ((cell_far (p := ⟨gb149, _, none⟩) NB146_149.out _).trans (((cell_far (p := ⟨gb149, _, none⟩) NB146_149.out _).trans (((cell_far (p := ⟨gb149, _, none⟩) NB146_149.out _).trans (((cell_far (p := ⟨gb149, _, none⟩) NB146_149.out _).trans (((cell_far (p := ⟨gb149, _, none⟩) NB146_149.out _).trans (((cell_far (p := ⟨gb149, _, none⟩) NB146_149.out _).trans (((cell_far (p := ⟨gb149, _, none⟩) NB146_149.out _).trans (((cell_far (p := ⟨gb149, _, none⟩) NB146_149.out _).trans (hHeld.2.2.2.2.1)))))))))))))))), ((cell_far (p := ⟨gb149, _, none⟩) NB146_149.out _).trans (((cell_far (p := ⟨gb149, _, none⟩) NB146_149.out _).trans (((cell_far (p := ⟨gb149, _, none⟩) NB146_149.out _).trans (((cell_far (p := ⟨gb149, _, none⟩) NB146_149.out _).trans (((cell_far (p := ⟨gb149, _, none⟩) NB146_149.out _).trans (((cell_far (p := ⟨gb149, _, none⟩) NB146_149.out _).trans (((cell_far (p := ⟨gb149, _, none⟩) NB146_149.out _).trans (((cell_far (p := ⟨gb149, _, none⟩) NB146_149.out _).trans (hHeld.2.2.2.2.2))))))))))))))))⟩ (fun hHeld => ?_)
    clear hK K
    refine done_ (done_of HT_.out (by kernel_rfl)) ?_
    have hnb23 := NB146_147.out
    have hnc23 := NB147_146.out
    have hnb24 := NB146_149.out
    have hnc24 := NB149_146.out
    obtain ⟨hcz25_0, hcz25_1, hcz25_2, hcz25_3, hcz25_4, hcz25_5⟩ := cc6 BK146
    obtain ⟨hfz25_0, hfz25_1, hfz25_2, hfz25_3, hfz25_4, hfz25_5⟩ := cf6 BK146
    have hnb26 := NB149_147.out
    have hnc26 := NB147_149.out
    obtain ⟨hcz27_0, hcz27_1, hcz27_2, hcz27_3, hcz27_4, hcz27_5, hcz27_6, hcz27_7⟩ := cc8 BK149
    obtain ⟨hfz27_0, hfz27_1, hfz27_2, hfz27_3, hfz27_4, hfz27_5, hfz27_6, hfz27_7⟩ := cf8 BK149
    try go_wp2_with (first | ((with_reducible refine gate_callee (f := 19) rfl ?_); refine goesL_ (some 28) rfl rfl Try.func19 (by kernel_rfl) rfl #[.agg #[.int .i64 a0_0, .int .i64 a0_1, .int .i64 a0_2, .int .i64 a0_3, .int .i64 a0_4, .int .i64 a0_5], .agg #[.bool true, .int .i64 a1, .int .i64 a2, .int .i64 a3, .bool t148, .int .i64 a0_0, .int .i64 a4, .int .i64 0]] rfl (by (try simp only [List.map_toArray, List.map_cons, List.map_nil]); first | done | rfl | (simp only [List.length_drop, List.length_take]; rfl)) ?_; (with_reducible refine (job_May.calls a0_0 a0_1 a0_2 a0_3 a0_4 a0_5 true a1 a2 a3 t148 a0_0 a4 0 true _ A7.out).mono ?_); rintro e w28 ⟨rfl, hb⟩; refine ⟨_, rfl, ?_⟩; have n0_ := Aside0.mk (blk_below (g := gb146) (o := .cells #[.int .i64 a0_0, .int .i64 a0_1, .int .i64 a0_2, .int .i64 a0_3, .int .i64 a0_4, .int .i64 a0_5] 23 (0, 0)) (by (with_reducible repeat (first | refine bN ?_ _ | refine bD ?_ | refine bA ?_ _ | refine blk_far ?_ NB146_149.out _)); exact BK146.out) hb); have n1_ := Aside0.mk (blk_below (g := gb147) (o := .cells #[.bool false, .int .i64 0, .int .i64 0, .int .i64 0, .bool false, .int .i64 0, .int .i64 0, .int .i64 0] 25 (0, 0)) (by (with_reducible repeat (first | refine bN ?_ _ | refine bD ?_ | refine bA ?_ _ | refine blk_far ?_ NB147_149.out _)); exact BK147.out) hb); have n2_ := Aside0.mk (blk_below (g := gb149) (o := .cells #[.bool true, .int .i64 a1, .int .i64 a2, .int .i64 a3, .bool t148, .int .i64 a0_0, .int .i64 a4, .int .i64 0] 25 (0, 0)) (by (with_reducible repeat (first | refine bN ?_ _ | refine bD ?_ | refine bA ?_ _)); refine blk_put (cs := #[.bool true, .int .i64 a1, .int .i64 a2, .int .i64 a3, .bool t148, .int .i64 a0_0, .int .i64 a4, .int .i64 0]) ?_ 7 _ rfl; (with_reducible repeat (first | refine bN ?_ _ | refine bD ?_ | refine bA ?_ _)); refine blk_put (cs := #[.bool true, .int .i64 a1, .int .i64 a2, .int .i64 a3, .bool t148, .int .i64 a0_0, .int .i64 0, .int .i64 0]) ?_ 6 _ rfl; (with_reducible repeat (first | refine bN ?_ _ | refine bD ?_ | refine bA ?_ _)); refine blk_put (cs := #[.bool true, .int .i64 a1, .int .i64 a2, .int .i64 a3, .bool t148, .int .i64 0, .int .i64 0, .int .i64 0]) ?_ 5 _ rfl; (with_reducible repeat (first | refine bN ?_ _ | refine bD ?_ | refine bA ?_ _)); refine blk_put (cs := #[.bool true, .int .i64 a1, .int .i64 a2, .int .i64 a3, .bool false, .int .i64 0, .int .i64 0, .int .i64 0]) ?_ 4 _ rfl; (with_reducible repeat (first | refine bN ?_ _ | refine bD ?_ | refine bA ?_ _)); refine blk_put (cs := #[.bool true, .int .i64 a1, .int .i64 a2, .int .i64 0, .bool false, .int .i64 0, .int .i64 0, .int .i64 0]) ?_ 3 _ rfl; (with_reducible repeat (first | refine bN ?_ _ | refine bD ?_ | refine bA ?_ _)); refine blk_put (cs := #[.bool true, .int .i64 a1, .int .i64 0, .int .i64 0, .bool false, .int .i64 0, .int .i64 0, .int .i64 0]) ?_ 2 _ rfl; (with_reducible repeat (first | refine bN ?_ _ | refine bD ?_ | refine bA ?_ _)); refine blk_put (cs := #[.bool true, .int .i64 0, .int .i64 0, .int .i64 0, .bool false, .int .i64 0, .int .i64 0, .int .i64 0]) ?_ 1 _ rfl; (with_reducible repeat (first | refine bN ?_ _ | refine bD ?_ | refine bA ?_ _)); refine blk_put (cs := #[.bool false, .int .i64 0, .int .i64 0, .int .i64 0, .bool false, .int .i64 0, .int .i64 0, .int .i64 0]) ?_ 0 _ rfl; (with_reducible repeat (first | refine bN ?_ _ | refine bD ?_ | refine bA ?_ _)); exact BK149.out) hb); have n3_ := bs HB hb; clear BK146; clear BK147; clear BK149; clear HB; have BK146 := n0_; have BK147 := n1_; have BK149 := n2_; have HB := n3_; clear n0_ n1_ n2_ n3_; (try clear hb); (try clear hb2); (try clear hk); (try clear hi); (try clear hcz25_0 hcz25_1 hcz25_2 hcz25_3 hcz25_4 hcz25_5 hfz25_0 hfz25_1 hfz25_2 hfz25_3 hfz25_4 hfz25_5); (try clear hcz27_0 hcz27_1 hcz27_2 hcz27_3 hcz27_4 hcz27_5 hcz27_6 hcz27_7 hfz27_0 hfz27_1 hfz27_2 hfz27_3 hfz27_4 hfz27_5 hfz27_6 hfz27_7); obtain ⟨hcz29_0, hcz29_1, hcz29_2, hcz29_3, hcz29_4, hcz29_5, hcz29_6, hcz29_7⟩ := cc8 BK149; obtain ⟨hfz29_0, hfz29_1, hfz29_2, hfz29_3, hfz29_4, hfz29_5, hfz29_6, hfz29_7⟩ := cf8 BK149; obtain ⟨hcz30_0, hcz30_1, hcz30_2, hcz30_3, hcz30_4, hcz30_5, hcz30_6, hcz30_7⟩ := cc8 BK147; obtain ⟨hfz30_0, hfz30_1, hfz30_2, hfz30_3, hfz30_4, hfz30_5, hfz30_6, hfz30_7⟩ := cf8 BK147))
    refine bodyPost_ret (results_ct rfl _ _ gb147 25 #[.bool true, .int .i64 a1, .int .i64 a2, .int .i64 a3, .bool t148, .int .i64 a0_0, .int .i64 a4, .int .i64 0] (0, 0) _ rfl (by (with_reducible repeat (first | refine bN ?_ _ | refine bD ?_ | refine bA ?_ _)); refine blk_put (cs := #[.bool true, .int .i64 a1, .int .i64 a2, .int .i64 a3, .bool t148, .int .i64 a0_0, .int .i64 a4, .int .i64 0]) ?_ 7 _ rfl; (with_reducible repeat (first | refine bN ?_ _ | refine bD ?_ | refine bA ?_ _)); refine blk_put (cs := #[.bool true, .int .i64 a1, .int .i64 a2, .int .i64 a3, .bool t148, .int .i64 a0_0, .int .i64 0, .int .i64 0]) ?_ 6 _ rfl; (with_reducible repeat (first | refine bN ?_ _ | refine bD ?_ | refine bA ?_ _)); refine blk_put (cs := #[.bool true, .int .i64 a1, .int .i64 a2, .int .i64 a3, .bool t148, .int .i64 0, .int .i64 0, .int .i64 0]) ?_ 5 _ rfl; (with_reducible repeat (first | refine bN ?_ _ | refine bD ?_ | refine bA ?_ _)); refine blk_put (cs := #[.bool true, .int .i64 a1, .int .i64 a2, .int .i64 a3, .bool false, .int .i64 0, .int .i64 0, .int .i64 0]) ?_ 4 _ rfl; (with_reducible repeat (first | refine bN ?_ _ | refine bD ?_ | refine bA ?_ _)); refine blk_put (cs := #[.bool true, .int .i64 a1, .int .i64 a2, .int .i64 0, .bool false, .int .i64 0, .int .i64 0, .int .i64 0]) ?_ 3 _ rfl; (with_reducible repeat (first | refine bN ?_ _ | refine bD ?_ | refine bA ?_ _)); refine blk_put (cs := #[.bool true, .int .i64 a1, .int .i64 0, .int .i64 0, .bool false, .int .i64 0, .int .i64 0, .int .i64 0]) ?_ 2 _ rfl; (with_reducible repeat (first | refine bN ?_ _ | refine bD ?_ | refine bA ?_ _)); refine blk_put (cs := #[.bool true, .int .i64 0, .int .i64 0, .int .i64 0, .bool false, .int .i64 0, .int .i64 0, .int .i64 0]) ?_ 1 _ rfl; (with_reducible repeat (first | refine bN ?_ _ | refine bD ?_ | refine bA ?_ _)); refine blk_put (cs := #[.bool false, .int .i64 0, .int .i64 0, .int .i64 0, .bool false, .int .i64 0, .int .i64 0, .int .i64 0]) ?_ 0 _ rfl; (with_reducible repeat (first | refine bN ?_ _ | refine bD ?_ | refine bA ?_ _)); exact BK147.out) Try.underlying25 rfl (by kernel_rfl)) rfl ?_
    exact ⟨by first | rfl | (simp [errW_none, errW_some] <;> rfl) | (simp [*, errW_none, errW_some] <;> rfl) | (exfalso; contradiction), by repeat (first | (with_reducible first | exact HB.out | apply below_alloc | apply pw_below_drewN | apply below_drew1 | refine below_set ?_ GE146.out | refine below_set ?_ GE147.out | refine below_set ?_ GE149.out) | exact HB.out)⟩
  · replace c8 := Bool.eq_false_iff.mpr c8
    subst c8
    rw [if_neg (show ¬ (false = true) by decide)] at H
    simp only [Option.some.injEq, Prod.mk.injEq] at H
    obtain ⟨rfl, rfl, rfl, rfl, rfl, rfl, rfl, rfl, rfl⟩ := H
    go_enter Try.func21, Try.ntmps21
    try go_wp2_with (first | ((with_reducible refine gate_dst (N := 5) rfl ?_); refine box_event ?hg (N := 5) ?hd (cs := #[.int .i64 a0_0, .int .i64 a0_1, .int .i64 a0_2, .int .i64 a0_3, .int .i64 a0_4, .int .i64 a0_5]) (t := 23) ?hr ?_; (case hd => rfl); (case hg => rfl); (case hr => first | (go_simp; done) | (go_simp; rfl)); intro gb146 hg w31 hbox hb; have n0_ := bs HB hb; have n1_ := Aside0.mk (hbox); have n2_ := bz HB hg; have n3_ := bz HB hg; clear HB; have HB := n0_; have BK146 := n1_; have GW146 := n2_; have GE146 := n3_; clear n0_ n1_ n2_ n3_; clear hb hbox hg) | ((with_reducible refine gate_dst (N := 10) rfl ?_); refine box_event ?hg (N := 10) ?hd (cs := #[.bool false, .int .i64 0, .int .i64 0, .int .i64 0, .bool false, .int .i64 0, .int .i64 0, .int .i64 0]) (t := 25) ?hr ?_; (case hd => rfl); (case hg => rfl); (case hr => first | (go_simp; done) | (go_simp; rfl)); intro gb147 hg w32 hbox hb; have n0_ := bb BK146 hb; have n1_ := bs HB hb; have n2_ := Aside0.mk (hbox); have n3_ := bz HB hg; have n4_ := bz HB hg; have n5_ := bl BK146 hg; have n6_ := bg BK146 hg; clear BK146; clear HB; have BK146 := n0_; have HB := n1_; have BK147 := n2_; have GW147 := n3_; have GE147 := n4_; have NB146_147 := n5_; have NB147_146 := n6_; clear n0_ n1_ n2_ n3_ n4_ n5_ n6_; clear hb hbox hg))
    have n0_ := Aside0.mk (blk_drew BK146.out)
    have n1_ := Aside0.mk (blk_drew BK147.out)
    have n2_ := Aside0.mk (below_drew1 HB.out)
    clear BK146
    clear BK147
    clear HB
    have BK146 := n0_
    have BK147 := n1_
    have HB := n2_
    clear n0_ n1_ n2_
    refine start_ (n := 15) (S := fun w' => w'.cell? ⟨gb146, 0, none⟩ = some (.int .i64 a0_0) ∧ w'.cell? ⟨gb146, 1, none⟩ = some (.int .i64 a0_1) ∧ w'.cell? ⟨gb146, 2, none⟩ = some (.int .i64 a0_2) ∧ w'.cell? ⟨gb146, 3, none⟩ = some (.int .i64 a0_3) ∧ w'.cell? ⟨gb146, 4, none⟩ = some (.int .i64 a0_4) ∧ w'.cell? ⟨gb146, 5, none⟩ = some (.int .i64 a0_5)) (ds := []) #[false, false, false, false, false, false, false, false, false, false, false, false, false, false, false] (by kernel_rfl) rfl rfl ⟨(blk_cell BK146.out 0).trans rfl, (blk_cell BK146.out 1).trans rfl, (blk_cell BK146.out 2).trans rfl, (blk_cell BK146.out 3).trans rfl, (blk_cell BK146.out 4).trans rfl, (blk_cell BK146.out 5).trans rfl⟩ (fun hHeld => ?_); refine with_tabW job_New.tab1 job_New.bits1 (fun HT_ HW_ => ?_)
    generalize w32.drew = w33 at BK146 BK147 HB hHeld ⊢
    refine pure_ (i := 0) (N := some 13) (v := ?_) (a' := ?_) #[true, false, false, false, false, false, false, false, false, false, false, false, false, false, false] rfl rfl (any_of HT_.out (by kernel_rfl)) (fun _ _ _ h => h) (Or.inl ⟨by rfl, ?_⟩) ?_ ?_
    rotate_left; focus (intro w'; go_simp; with_reducible rfl)
    rotate_left; focus (simp only [Act.put, List.setIfInBounds_toArray, List.set_cons_zero, List.set_cons_succ, i64_w, i32_w]; rfl)
    refine pure_ (i := 1) (N := some 14) (v := ?_) (a' := ?_) #[true, true, false, false, false, false, false, false, false, false, false, false, false, false, false] rfl rfl (any_of HT_.out (by kernel_rfl)) (fun _ _ _ h => h) (Or.inl ⟨by rfl, ?_⟩) ?_ ?_
    rotate_left; focus (intro w'; go_simp; with_reducible rfl)
    rotate_left; focus (simp only [Act.put, List.setIfInBounds_toArray, List.set_cons_zero, List.set_cons_succ, i64_w, i32_w]; rfl)
    refine pure_ (i := 2) (N := some 15) (v := ?_) (a' := ?_) #[true, true, true, false, false, false, false, false, false, false, false, false, false, false, false] rfl rfl (any_of HT_.out (by kernel_rfl)) (fun _ _ _ h => h) (Or.inl ⟨by rfl, ?_⟩) ?_ ?_
    rotate_left; focus (intro w'; go_simp; with_reducible rfl)
    rotate_left; focus (simp only [Act.put, List.setIfInBounds_toArray, List.set_cons_zero, List.set_cons_succ, i64_w, i32_w]; rfl)
    refine pure_ (i := 3) (N := some 16) (v := ?_) (a' := ?_) #[true, true, true, true, false, false, false, false, false, false, false, false, false, false, false] rfl rfl (any_of HT_.out (by kernel_rfl)) (fun _ _ _ h => h) (Or.inl ⟨by rfl, ?_⟩) ?_ ?_
    rotate_left; focus (intro w'; go_simp; with_reducible rfl)
    rotate_left; focus (simp only [Act.put, List.setIfInBounds_toArray, List.set_cons_zero, List.set_cons_succ, i64_w, i32_w]; rfl)
    refine pure_ (i := 5) (N := some 18) (v := ?_) (a' := ?_) #[true, true, true, true, false, true, false, false, false, false, false, false, false, false, false] rfl rfl (any_of HT_.out (by kernel_rfl)) (fun _ _ _ h => h) (Or.inl ⟨by rfl, ?_⟩) ?_ ?_
    rotate_left; focus (intro w'; go_simp; with_reducible rfl)
    rotate_left; focus (simp only [Act.put, List.setIfInBounds_toArray, List.set_cons_zero, List.set_cons_succ, i64_w, i32_w]; rfl)
    refine pure_ (i := 7) (N := some 20) (v := ?_) (a' := ?_) #[true, true, true, true, false, true, false, true, false, false, false, false, false, false, false] rfl rfl (any_of HT_.out (by kernel_rfl)) (fun _ _ _ h => h) (Or.inl ⟨by rfl, ?_⟩) ?_ ?_
    rotate_left; focus (intro w'; go_simp; with_reducible rfl)
    rotate_left; focus (simp only [Act.put, List.setIfInBounds_toArray, List.set_cons_zero, List.set_cons_succ, i64_w, i32_w]; rfl)
    refine pure_ (i := 9) (N := some 22) (v := ?_) (a' := ?_) #[true, true, true, true, false, true, false, true, false, true, false, false, false, false, false] rfl rfl (any_of HT_.out (by kernel_rfl)) (fun _ _ _ h => h) (Or.inl ⟨by rfl, ?_⟩) ?_ ?_
    rotate_left; focus (intro w'; go_simp; with_reducible rfl)
    rotate_left; focus (simp only [Act.put, List.setIfInBounds_toArray, List.set_cons_zero, List.set_cons_succ, i64_w, i32_w]; rfl)
    refine pure_ (i := 11) (N := some 24) (v := ?_) (a' := ?_) #[true, true, true, true, false, true, false, true, false, true, false, true, false, false, false] rfl rfl (any_of HT_.out (by kernel_rfl)) (fun _ _ _ h => h) (Or.inl ⟨by rfl, ?_⟩) ?_ ?_
    rotate_left; focus (intro w'; go_simp; with_reducible rfl)
    rotate_left; focus (simp only [Act.put, List.setIfInBounds_toArray, List.set_cons_zero, List.set_cons_succ, i64_w, i32_w]; rfl)
    refine take_ (i := 4) (N := some 17) (v := ?_) (a' := ?_) #[true, true, true, true, true, true, false, true, false, true, false, true, false, false, false] rfl rfl (take_ofW HT_.out HW_.out (by kernel_rfl)) (fun _ _ _ h => h) (Or.inl ⟨by rfl, ?_⟩) hHeld ?_ ?_
    rotate_left
    · rintro w' ⟨s0, s1, s2, s3, s4, s5⟩
      go_simp
      with_reducible rfl
    rotate_left; focus (simp only [Act.put, List.setIfInBounds_toArray, List.set_cons_zero, List.set_cons_succ, i64_w, i32_w]; rfl)
    refine take_ (i := 6) (N := some 19) (v := ?_) (a' := ?_) #[true, true, true, true, true, true, true, true, false, true, false, true, false, false, false] rfl rfl (take_ofW HT_.out HW_.out (by kernel_rfl)) (fun _ _ _ h => h) (Or.inl ⟨by rfl, ?_⟩) hHeld ?_ ?_
    rotate_left
    · rintro w' ⟨s0, s1, s2, s3, s4, s5⟩
      go_simp
      with_reducible rfl
    rotate_left; focus (simp only [Act.put, List.setIfInBounds_toArray, List.set_cons_zero, List.set_cons_succ, i64_w, i32_w]; rfl)
    refine take_ (i := 10) (N := some 23) (v := ?_) (a' := ?_) #[true, true, true, true, true, true, true, true, false, true, true, true, false, false, false] rfl rfl (take_ofW HT_.out HW_.out (by kernel_rfl)) (fun _ _ _ h => h) (Or.inl ⟨by rfl, ?_⟩) hHeld ?_ ?_
    rotate_left
    · rintro w' ⟨s0, s1, s2, s3, s4, s5⟩
      go_simp
      with_reducible rfl
    rotate_left; focus (simp only [Act.put, List.setIfInBounds_toArray, List.set_cons_zero, List.set_cons_succ, i64_w, i32_w]; rfl)
    refine join_ (σ := Nat) 1 #[true, true, true, true, true, true, true, true, true, true, true, true, true, true, false] (fun s_ => [(21, .bool t148), (12, .pointer (some ⟨s_, 0, none⟩)), (25, .agg #[.bool true, .int .i64 a1, .int .i64 a2, .int .i64 a3, .bool t148, .int .i64 a0_0, .int .i64 a4, .int .i64 0])]) (fun s_ w' => (w'.cell? ⟨gb146, 0, none⟩ = some (.int .i64 a0_0) ∧ w'.cell? ⟨gb146, 1, none⟩ = some (.int .i64 a0_1) ∧ w'.cell? ⟨gb146, 2, none⟩ = some (.int .i64 a0_2) ∧ w'.cell? ⟨gb146, 3, none⟩ = some (.int .i64 a0_3) ∧ w'.cell? ⟨gb146, 4, none⟩ = some (.int .i64 a0_4) ∧ w'.cell? ⟨gb146, 5, none⟩ = some (.int .i64 a0_5)) ∧ (w'.heap[gb146]? = some (.cells #[.int .i64 a0_0, .int .i64 a0_1, .int .i64 a0_2, .int .i64 a0_3, .int .i64 a0_4, .int .i64 a0_5] 23 (0, 0))) ∧ (w'.heap[gb147]? = some (.cells #[.bool false, .int .i64 0, .int .i64 0, .int .i64 0, .bool false, .int .i64 0, .int .i64 0, .int .i64 0] 25 (0, 0))) ∧ (w'.heap[s_]? = some (.cells #[.bool false, .int .i64 0, .int .i64 0, .int .i64 0, .bool false, .int .i64 0, .int .i64 0, .int .i64 0] 25 (0, 0))) ∧ (w.heap.size ≤ s_) ∧ (w.heap.size ≤ s_) ∧ (gb146 ≠ s_) ∧ (s_ ≠ gb146) ∧ (gb147 ≠ s_) ∧ (s_ ≠ gb147) ∧ (Below w.heap.size w w')) ?_ ?_
    rotate_left
    · intro hCont
      refine two_ (i := 8) (j := 13) (Ni := some 21) (Nj := some 12) #[true, true, true, true, true, true, true, true, true, true, true, true, false, false, false] #[true, true, true, true, true, true, true, true, false, true, true, true, false, true, false] rfl rfl rfl rfl (two_of HT_.out (by kernel_rfl)) (by decide) (by decide) (fun K hK => ?_) (fun K hK => ?_)
      · skip
        refine goes_ Try.func10 (by kernel_rfl) rfl #[.int .i64 a0_3, .int .i64 a0_4, .int .i64 a1] (by rfl) rfl rfl (by (try simp only [List.map_toArray, List.map_cons, List.map_nil]); first | done | rfl | (simp only [List.length_drop, List.length_take]; rfl)) ?_
        with_reducible refine (pat_On.calls a0_3 a0_4 a1 t148 _ A6.out).mono ?_
        rintro e w34 ⟨rfl, hb⟩
        refine ⟨_, rfl, ?_⟩
        have n0_ := bb BK146 hb
        have n1_ := bb BK147 hb
        have n2_ := bs HB hb
        clear BK146
        clear BK147
        clear HB
        have BK146 := n0_
        have BK147 := n1_
        have HB := n2_
        clear n0_ n1_ n2_
        (try clear hb)
        (try clear hb2)
        (try clear hk)
        (try clear hi)
        refine hK.out _ _ ⟨(blk_cell BK146.out 0).trans rfl, (blk_cell BK146.out 1).trans rfl, (blk_cell BK146.out 2).trans rfl, (blk_cell BK146.out 3).trans rfl, (blk_cell BK146.out 4).trans rfl, (blk_cell BK146.out 5).trans rfl⟩ (fun hHeld => ?_)
        clear hK K
        refine norm_ (a' := ?_) ?_ ?_
        rotate_left
        · show Act.put _ (some 21) _ = _
          simp only [Act.put, List.setIfInBounds_toArray, List.set_cons_zero, List.set_cons_succ, i64_w, i32_w]
          rfl
        refine pure_ (i := 12) (N := some 25) (v := ?_) (a' := ?_) #[true, true, true, true, true, true, true, true, true, true, true, true, true, false, false] rfl rfl (any_of HT_.out (by kernel_rfl)) (fun _ _ _ h => h) (Or.inl ⟨by rfl, ?_⟩) ?_ ?_
        rotate_left; focus (intro w'; go_simp; with_reducible rfl)
        rotate_left; focus (simp only [Act.put, List.setIfInBounds_toArray, List.set_cons_zero, List.set_cons_succ, i64_w, i32_w]; rfl)
        refine one_ (i := 13) (N := some 12) #[true, true, true, true, true, true, true, true, true, true, true, true, true, true, false] rfl rfl (one_of HT_.out (by kernel_rfl)) (by decide) (fun K hK => ?_)
        refine box_step ?hg (N := 12) ?hd (cs := #[.bool false, .int .i64 0, .int .i64 0, .int .i64 0, .bool false, .int .i64 0, .int .i64 0, .int .i64 0]) (t := 25) ?hr ?_; (case hd => rfl); (case hg => rfl); (case hr => first | (go_simp; done) | (go_simp; rfl))
        intro gb149 hg w35 hbox hb
        have n0_ := bb BK146 hb
        have n1_ := bb BK147 hb
        have n2_ := bs HB hb
        have n3_ := Aside0.mk (hbox)
        have n4_ := bz HB hg
        have n5_ := bz HB hg
        have n6_ := bl BK146 hg
        have n7_ := bg BK146 hg
        have n8_ := bl BK147 hg
        have n9_ := bg BK147 hg
        clear BK146
        clear BK147
        clear HB
        have BK146 := n0_
        have BK147 := n1_
        have HB := n2_
        have BK149 := n3_
        have GW149 := n4_
        have GE149 := n5_
        have NB146_149 := n6_
        have NB149_146 := n7_
        have NB147_149 := n8_
        have NB149_147 := n9_
        clear n0_ n1_ n2_ n3_ n4_ n5_ n6_ n7_ n8_ n9_
        clear hb hbox hg
        refine hK.out _ _ ⟨(blk_cell BK146.out 0).trans rfl, (blk_cell BK146.out 1).trans rfl, (blk_cell BK146.out 2).trans rfl, (blk_cell BK146.out 3).trans rfl, (blk_cell BK146.out 4).trans rfl, (blk_cell BK146.out 5).trans rfl⟩ (fun hHeld => ?_)
        clear hK K
        refine norm_ (a' := ?_) ?_ ?_
        rotate_left
        · show Act.put _ (some 12) _ = _
          simp only [Act.put, List.setIfInBounds_toArray, List.set_cons_zero, List.set_cons_succ, i64_w, i32_w]
          rfl
        exact norm_ (by simp only [putAll, Act.put, List.setIfInBounds_toArray, List.set_cons_zero, List.set_cons_succ]) (hCont (gb149) _ ⟨hHeld, (by (with_reducible repeat (first | refine bN ?_ _ | refine bD ?_ | refine bA ?_ _)); exact BK146.out), (by (with_reducible repeat (first | refine bN ?_ _ | refine bD ?_ | refine bA ?_ _)); exact BK147.out), (by (with_reducible repeat (first | refine bN ?_ _ | refine bD ?_ | refine bA ?_ _)); exact BK149.out), GW149.out, GE149.out, NB146_149.out, NB149_146.out, NB147_149.out, NB149_147.out, (by repeat (first | (with_reducible first | exact HB.out | apply below_alloc | apply pw_below_drewN | apply below_drew1 | refine below_set ?_ GE146.out | refine below_set ?_ GE147.out | refine below_set ?_ GE149.out) | exact HB.out))⟩)
      · skip
        refine box_step ?hg (N := 12) ?hd (cs := #[.bool false, .int .i64 0, .int .i64 0, .int .i64 0, .bool false, .int .i64 0, .int .i64 0, .int .i64 0]) (t := 25) ?hr ?_; (case hd => rfl); (case hg => rfl); (case hr => first | (go_simp; done) | (go_simp; rfl))
        intro gb149 hg w34 hbox hb
        have n0_ := bb BK146 hb
        have n1_ := bb BK147 hb
        have n2_ := bs HB hb
        have n3_ := Aside0.mk (hbox)
        have n4_ := bz HB hg
        have n5_ := bz HB hg
        have n6_ := bl BK146 hg
        have n7_ := bg BK146 hg
        have n8_ := bl BK147 hg
        have n9_ := bg BK147 hg
        clear BK146
        clear BK147
        clear HB
        have BK146 := n0_
        have BK147 := n1_
        have HB := n2_
        have BK149 := n3_
        have GW149 := n4_
        have GE149 := n5_
        have NB146_149 := n6_
        have NB149_146 := n7_
        have NB147_149 := n8_
        have NB149_147 := n9_
        clear n0_ n1_ n2_ n3_ n4_ n5_ n6_ n7_ n8_ n9_
        clear hb hbox hg
        refine hK.out _ _ ⟨(blk_cell BK146.out 0).trans rfl, (blk_cell BK146.out 1).trans rfl, (blk_cell BK146.out 2).trans rfl, (blk_cell BK146.out 3).trans rfl, (blk_cell BK146.out 4).trans rfl, (blk_cell BK146.out 5).trans rfl⟩ (fun hHeld => ?_)
        clear hK K
        refine norm_ (a' := ?_) ?_ ?_
        rotate_left
        · show Act.put _ (some 12) _ = _
          simp only [Act.put, List.setIfInBounds_toArray, List.set_cons_zero, List.set_cons_succ, i64_w, i32_w]
          rfl
        refine one_ (i := 8) (N := some 21) #[true, true, true, true, true, true, true, true, true, true, true, true, false, true, false] rfl rfl (one_of HT_.out (by kernel_rfl)) (by decide) (fun K hK => ?_)
        refine goes_ Try.func10 (by kernel_rfl) rfl #[.int .i64 a0_3, .int .i64 a0_4, .int .i64 a1] (by rfl) rfl rfl (by (try simp only [List.map_toArray, List.map_cons, List.map_nil]); first | done | rfl | (simp only [List.length_drop, List.length_take]; rfl)) ?_
        with_reducible refine (pat_On.calls a0_3 a0_4 a1 t148 _ A6.out).mono ?_
        rintro e w35 ⟨rfl, hb⟩
        refine ⟨_, rfl, ?_⟩
        have n0_ := bb BK146 hb
        have n1_ := bb BK147 hb
        have n2_ := bb BK149 hb
        have n3_ := bs HB hb
        clear BK146
        clear BK147
        clear BK149
        clear HB
        have BK146 := n0_
        have BK147 := n1_
        have BK149 := n2_
        have HB := n3_
        clear n0_ n1_ n2_ n3_
        (try clear hb)
        (try clear hb2)
        (try clear hk)
        (try clear hi)
        refine hK.out _ _ ⟨(blk_cell BK146.out 0).trans rfl, (blk_cell BK146.out 1).trans rfl, (blk_cell BK146.out 2).trans rfl, (blk_cell BK146.out 3).trans rfl, (blk_cell BK146.out 4).trans rfl, (blk_cell BK146.out 5).trans rfl⟩ (fun hHeld => ?_)
        clear hK K
        refine norm_ (a' := ?_) ?_ ?_
        rotate_left
        · show Act.put _ (some 21) _ = _
          simp only [Act.put, List.setIfInBounds_toArray, List.set_cons_zero, List.set_cons_succ, i64_w, i32_w]
          rfl
        refine pure_ (i := 12) (N := some 25) (v := ?_) (a' := ?_) #[true, true, true, true, true, true, true, true, true, true, true, true, true, true, false] rfl rfl (any_of HT_.out (by kernel_rfl)) (fun _ _ _ h => h) (Or.inl ⟨by rfl, ?_⟩) ?_ ?_
        rotate_left; focus (intro w'; go_simp; with_reducible rfl)
        rotate_left; focus (simp only [Act.put, List.setIfInBounds_toArray, List.set_cons_zero, List.set_cons_succ, i64_w, i32_w]; rfl)
        exact norm_ (by simp only [putAll, Act.put, List.setIfInBounds_toArray, List.set_cons_zero, List.set_cons_succ]) (hCont (gb149) _ ⟨hHeld, (by (with_reducible repeat (first | refine bN ?_ _ | refine bD ?_ | refine bA ?_ _)); exact BK146.out), (by (with_reducible repeat (first | refine bN ?_ _ | refine bD ?_ | refine bA ?_ _)); exact BK147.out), (by (with_reducible repeat (first | refine bN ?_ _ | refine bD ?_ | refine bA ?_ _)); exact BK149.out), GW149.out, GE149.out, NB146_149.out, NB149_146.out, NB147_149.out, NB149_147.out, (by repeat (first | (with_reducible first | exact HB.out | apply below_alloc | apply pw_below_drewN | apply below_drew1 | refine below_set ?_ GE146.out | refine below_set ?_ GE147.out | refine below_set ?_ GE149.out) | exact HB.out))⟩)
    rintro gb149 w36 ⟨hS_, h0_, h1_, h2_, h3_, h4_, h5_, h6_, h7_, h8_, h9_⟩
    have n0_ : Aside0 (w36.heap[gb146]? = some (.cells #[.int .i64 a0_0, .int .i64 a0_1, .int .i64 a0_2, .int .i64 a0_3, .int .i64 a0_4, .int .i64 a0_5] 23 (0, 0))) := ⟨h0_⟩
    have n1_ : Aside0 (w36.heap[gb147]? = some (.cells #[.bool false, .int .i64 0, .int .i64 0, .int .i64 0, .bool false, .int .i64 0, .int .i64 0, .int .i64 0] 25 (0, 0))) := ⟨h1_⟩
    have n2_ : Aside0 (w36.heap[gb149]? = some (.cells #[.bool false, .int .i64 0, .int .i64 0, .int .i64 0, .bool false, .int .i64 0, .int .i64 0, .int .i64 0] 25 (0, 0))) := ⟨h2_⟩
    have n3_ : Aside0 (w.heap.size ≤ gb149) := ⟨h3_⟩
    have n4_ : Aside0 (w.heap.size ≤ gb149) := ⟨h4_⟩
    have n5_ : Aside0 (gb146 ≠ gb149) := ⟨h5_⟩
    have n6_ : Aside0 (gb149 ≠ gb146) := ⟨h6_⟩
    have n7_ : Aside0 (gb147 ≠ gb149) := ⟨h7_⟩
    have n8_ : Aside0 (gb149 ≠ gb147) := ⟨h8_⟩
    have n9_ : Aside0 (Below w.heap.size w w36) := ⟨h9_⟩
    clear BK146
    clear BK147
    clear HB
    clear h0_ h1_ h2_ h3_ h4_ h5_ h6_ h7_ h8_ h9_
    have BK146 := n0_
    have BK147 := n1_
    have BK149 := n2_
    have GW149 := n3_
    have GE149 := n4_
    have NB146_149 := n5_
    have NB149_146 := n6_
    have NB147_149 := n7_
    have NB149_147 := n8_
    have HB := n9_
    clear n0_ n1_ n2_ n3_ n4_ n5_ n6_ n7_ n8_ n9_
    have hHeld : w36.cell? ⟨gb146, 0, none⟩ = some (.int .i64 a0_0) ∧ w36.cell? ⟨gb146, 1, none⟩ = some (.int .i64 a0_1) ∧ w36.cell? ⟨gb146, 2, none⟩ = some (.int .i64 a0_2) ∧ w36.cell? ⟨gb146, 3, none⟩ = some (.int .i64 a0_3) ∧ w36.cell? ⟨gb146, 4, none⟩ = some (.int .i64 a0_4) ∧ w36.cell? ⟨gb146, 5, none⟩ = some (.int .i64 a0_5) := hS_
    refine norm_ (a' := ?_) ?_ ?_
    rotate_left
    · simp only [putAll, Act.put, List.setIfInBounds_toArray, List.set_cons_zero, List.set_cons_succ]
      rfl
    refine one_ (i := 14) (N := none) #[true, true, true, true, true, true, true, true, true, true, true, true, true, true, true] rfl rfl (one_of HT_.out (by kernel_rfl)) (by decide) (fun K hK => ?_)
    have hs37 : w36.cell? ⟨gb149, 0, none⟩ = some (.bool false) := (blk_cell BK149.out 0).trans rfl
    have hfs37 := blk_frozen BK149.out 0
    have hns37_0 := NB146_149.out
    have hns37_1 := NB147_149.out
    have hms37_0 := NB149_146.out
    have hms37_1 := NB149_147.out
    have hs38 : w36.cell? ⟨gb149, 1, none⟩ = some (.int .i64 0) := (blk_cell BK149.out 1).trans rfl
    have hfs38 := blk_frozen BK149.out 1
    have hns38_0 := NB146_149.out
    have hns38_1 := NB147_149.out
    have hms38_0 := NB149_146.out
    have hms38_1 := NB149_147.out
    have hs39 : w36.cell? ⟨gb149, 2, none⟩ = some (.int .i64 0) := (blk_cell BK149.out 2).trans rfl
    have hfs39 := blk_frozen BK149.out 2
    have hns39_0 := NB146_149.out
    have hns39_1 := NB147_149.out
    have hms39_0 := NB149_146.out
    have hms39_1 := NB149_147.out
    have hs40 : w36.cell? ⟨gb149, 3, none⟩ = some (.int .i64 0) := (blk_cell BK149.out 3).trans rfl
    have hfs40 := blk_frozen BK149.out 3
    have hns40_0 := NB146_149.out
    have hns40_1 := NB147_149.out
    have hms40_0 := NB149_146.out
    have hms40_1 := NB149_147.out
    have hs41 : w36.cell? ⟨gb149, 4, none⟩ = some (.bool false) := (blk_cell BK149.out 4).trans rfl
    have hfs41 := blk_frozen BK149.out 4
    have hns41_0 := NB146_149.out
    have hns41_1 := NB147_149.out
    have hms41_0 := NB149_146.out
    have hms41_1 := NB149_147.out
    have hs42 : w36.cell? ⟨gb149, 5, none⟩ = some (.int .i64 0) := (blk_cell BK149.out 5).trans rfl
    have hfs42 := blk_frozen BK149.out 5
    have hns42_0 := NB146_149.out
    have hns42_1 := NB147_149.out
    have hms42_0 := NB149_146.out
    have hms42_1 := NB149_147.out
    have hs43 : w36.cell? ⟨gb149, 6, none⟩ = some (.int .i64 0) := (blk_cell BK149.out 6).trans rfl
    have hfs43 := blk_frozen BK149.out 6
    have hns43_0 := NB146_149.out
    have hns43_1 := NB147_149.out
    have hms43_0 := NB149_146.out
    have hms43_1 := NB149_147.out
    have hs44 : w36.cell? ⟨gb149, 7, none⟩ = some (.int .i64 0) := (blk_cell BK149.out 7).trans rfl
    have hfs44 := blk_frozen BK149.out 7
    have hns44_0 := NB146_149.out
    have hns44_1 := NB147_149.out
    have hms44_0 := NB149_146.out
    have hms44_1 := NB149_147.out
    refine skip_ (w1 := ?_) (by rfl) rfl ?_ ?_
    rotate_left
    · go_simp
      rfl
    refine hK.out _ _ ⟨((cell_far (p := ⟨gb149, _, none⟩) NB146_149.out _).trans (((cell_far (p := ⟨gb149, _, none⟩) NB146_149.out _).trans (((cell_far (p := ⟨gb149, _, none⟩) NB146_149.out _).trans (((cell_far (p := ⟨gb149, _, none⟩) NB146_149.out _).trans (((cell_far (p := ⟨gb149, _, none⟩) NB146_149.out _).trans (((cell_far (p := ⟨gb149, _, none⟩) NB146_149.out _).trans (((cell_far (p := ⟨gb149, _, none⟩) NB146_149.out _).trans (((cell_far (p := ⟨gb149, _, none⟩) NB146_149.out _).trans (hHeld.1)))))))))))))))), ((cell_far (p := ⟨gb149, _, none⟩) NB146_149.out _).trans (((cell_far (p := ⟨gb149, _, none⟩) NB146_149.out _).trans (((cell_far (p := ⟨gb149, _, none⟩) NB146_149.out _).trans (((cell_far (p := ⟨gb149, _, none⟩) NB146_149.out _).trans (((cell_far (p := ⟨gb149, _, none⟩) NB146_149.out _).trans (((cell_far (p := ⟨gb149, _, none⟩) NB146_149.out _).trans (((cell_far (p := ⟨gb149, _, none⟩) NB146_149.out _).trans (((cell_far (p := ⟨gb149, _, none⟩) NB146_149.out _).trans (hHeld.2.1)))))))))))))))), ((cell_far (p := ⟨gb149, _, none⟩) NB146_149.out _).trans (((cell_far (p := ⟨gb149, _, none⟩) NB146_149.out _).trans (((cell_far (p := ⟨gb149, _, none⟩) NB146_149.out _).trans (((cell_far (p := ⟨gb149, _, none⟩) NB146_149.out _).trans (((cell_far (p := ⟨gb149, _, none⟩) NB146_149.out _).trans (((cell_far (p := ⟨gb149, _, none⟩) NB146_149.out _).trans (((cell_far (p := ⟨gb149, _, none⟩) NB146_149.out _).trans (((cell_far (p := ⟨gb149, _, none⟩) NB146_149.out _).trans (hHeld.2.2.1)))))))))))))))), ((cell_far (p := ⟨gb149, _, none⟩) NB146_149.out _).trans (((cell_far (p := ⟨gb149, _, none⟩) NB146_149.out _).trans (((cell_far (p := ⟨gb149, _, none⟩) NB146_149.out _).trans (((cell_far (p := ⟨gb149, _, none⟩) NB146_149.out _).trans (((cell_far (p := ⟨gb149, _, none⟩) NB146_149.out _).trans (((cell_far (p := ⟨gb149, _, none⟩) NB146_149.out _).trans (((cell_far (p := ⟨gb149, _, none⟩) NB146_149.out _).trans (((cell_far (p := ⟨gb149, _, none⟩) NB146_149.out _).trans (hHeld.2.2.2.1)))))))))))))))), ((cell_far (p := ⟨gb149, _, none⟩) NB146_149.out _).trans (((cell_far (p := ⟨gb149, _, none⟩) NB146_149.out _).trans (((cell_far (p := ⟨gb149, _, none⟩) NB146_149.out _).trans (((cell_far (p := ⟨gb149, _, none⟩) NB146_149.out _).trans (((cell_far (p := ⟨gb149, _, none⟩) NB146_149.out _).trans (((cell_far (p := ⟨gb149, _, none⟩) NB146_149.out _).trans (((cell_far (p := ⟨gb149, _, none⟩) NB146_149.out _).trans (((cell_far (p := ⟨gb149, _, none⟩) NB146_149.out _).trans (hHeld.2.2.2.2.1)))))))))))))))), ((cell_far (p := ⟨gb149, _, none⟩) NB146_149.out _).trans (((cell_far (p := ⟨gb149, _, none⟩) NB146_149.out _).trans (((cell_far (p := ⟨gb149, _, none⟩) NB146_149.out _).trans (((cell_far (p := ⟨gb149, _, none⟩) NB146_149.out _).trans (((cell_far (p := ⟨gb149, _, none⟩) NB146_149.out _).trans (((cell_far (p := ⟨gb149, _, none⟩) NB146_149.out _).trans (((cell_far (p := ⟨gb149, _, none⟩) NB146_149.out _).trans (((cell_far (p := ⟨gb149, _, none⟩) NB146_149.out _).trans (hHeld.2.2.2.2.2))))))))))))))))⟩ (fun hHeld => ?_)
    clear hK K
    refine done_ (done_of HT_.out (by kernel_rfl)) ?_
    have hnb45 := NB146_147.out
    have hnc45 := NB147_146.out
    have hnb46 := NB146_149.out
    have hnc46 := NB149_146.out
    obtain ⟨hcz47_0, hcz47_1, hcz47_2, hcz47_3, hcz47_4, hcz47_5⟩ := cc6 BK146
    obtain ⟨hfz47_0, hfz47_1, hfz47_2, hfz47_3, hfz47_4, hfz47_5⟩ := cf6 BK146
    have hnb48 := NB149_147.out
    have hnc48 := NB147_149.out
    obtain ⟨hcz49_0, hcz49_1, hcz49_2, hcz49_3, hcz49_4, hcz49_5, hcz49_6, hcz49_7⟩ := cc8 BK149
    obtain ⟨hfz49_0, hfz49_1, hfz49_2, hfz49_3, hfz49_4, hfz49_5, hfz49_6, hfz49_7⟩ := cf8 BK149
    try go_wp2_with (first | ((with_reducible refine gate_callee (f := 19) rfl ?_); refine goesL_ (some 28) rfl rfl Try.func19 (by kernel_rfl) rfl #[.agg #[.int .i64 a0_0, .int .i64 a0_1, .int .i64 a0_2, .int .i64 a0_3, .int .i64 a0_4, .int .i64 a0_5], .agg #[.bool true, .int .i64 a1, .int .i64 a2, .int .i64 a3, .bool t148, .int .i64 a0_0, .int .i64 a4, .int .i64 0]] rfl (by (try simp only [List.map_toArray, List.map_cons, List.map_nil]); first | done | rfl | (simp only [List.length_drop, List.length_take]; rfl)) ?_; (with_reducible refine (job_May.calls a0_0 a0_1 a0_2 a0_3 a0_4 a0_5 true a1 a2 a3 t148 a0_0 a4 0 false _ A7.out).mono ?_); rintro e w50 ⟨rfl, hb⟩; refine ⟨_, rfl, ?_⟩; have n0_ := Aside0.mk (blk_below (g := gb146) (o := .cells #[.int .i64 a0_0, .int .i64 a0_1, .int .i64 a0_2, .int .i64 a0_3, .int .i64 a0_4, .int .i64 a0_5] 23 (0, 0)) (by (with_reducible repeat (first | refine bN ?_ _ | refine bD ?_ | refine bA ?_ _ | refine blk_far ?_ NB146_149.out _)); exact BK146.out) hb); have n1_ := Aside0.mk (blk_below (g := gb147) (o := .cells #[.bool false, .int .i64 0, .int .i64 0, .int .i64 0, .bool false, .int .i64 0, .int .i64 0, .int .i64 0] 25 (0, 0)) (by (with_reducible repeat (first | refine bN ?_ _ | refine bD ?_ | refine bA ?_ _ | refine blk_far ?_ NB147_149.out _)); exact BK147.out) hb); have n2_ := Aside0.mk (blk_below (g := gb149) (o := .cells #[.bool true, .int .i64 a1, .int .i64 a2, .int .i64 a3, .bool t148, .int .i64 a0_0, .int .i64 a4, .int .i64 0] 25 (0, 0)) (by (with_reducible repeat (first | refine bN ?_ _ | refine bD ?_ | refine bA ?_ _)); refine blk_put (cs := #[.bool true, .int .i64 a1, .int .i64 a2, .int .i64 a3, .bool t148, .int .i64 a0_0, .int .i64 a4, .int .i64 0]) ?_ 7 _ rfl; (with_reducible repeat (first | refine bN ?_ _ | refine bD ?_ | refine bA ?_ _)); refine blk_put (cs := #[.bool true, .int .i64 a1, .int .i64 a2, .int .i64 a3, .bool t148, .int .i64 a0_0, .int .i64 0, .int .i64 0]) ?_ 6 _ rfl; (with_reducible repeat (first | refine bN ?_ _ | refine bD ?_ | refine bA ?_ _)); refine blk_put (cs := #[.bool true, .int .i64 a1, .int .i64 a2, .int .i64 a3, .bool t148, .int .i64 0, .int .i64 0, .int .i64 0]) ?_ 5 _ rfl; (with_reducible repeat (first | refine bN ?_ _ | refine bD ?_ | refine bA ?_ _)); refine blk_put (cs := #[.bool true, .int .i64 a1, .int .i64 a2, .int .i64 a3, .bool false, .int .i64 0, .int .i64 0, .int .i64 0]) ?_ 4 _ rfl; (with_reducible repeat (first | refine bN ?_ _ | refine bD ?_ | refine bA ?_ _)); refine blk_put (cs := #[.bool true, .int .i64 a1, .int .i64 a2, .int .i64 0, .bool false, .int .i64 0, .int .i64 0, .int .i64 0]) ?_ 3 _ rfl; (with_reducible repeat (first | refine bN ?_ _ | refine bD ?_ | refine bA ?_ _)); refine blk_put (cs := #[.bool true, .int .i64 a1, .int .i64 0, .int .i64 0, .bool false, .int .i64 0, .int .i64 0, .int .i64 0]) ?_ 2 _ rfl; (with_reducible repeat (first | refine bN ?_ _ | refine bD ?_ | refine bA ?_ _)); refine blk_put (cs := #[.bool true, .int .i64 0, .int .i64 0, .int .i64 0, .bool false, .int .i64 0, .int .i64 0, .int .i64 0]) ?_ 1 _ rfl; (with_reducible repeat (first | refine bN ?_ _ | refine bD ?_ | refine bA ?_ _)); refine blk_put (cs := #[.bool false, .int .i64 0, .int .i64 0, .int .i64 0, .bool false, .int .i64 0, .int .i64 0, .int .i64 0]) ?_ 0 _ rfl; (with_reducible repeat (first | refine bN ?_ _ | refine bD ?_ | refine bA ?_ _)); exact BK149.out) hb); have n3_ := bs HB hb; clear BK146; clear BK147; clear BK149; clear HB; have BK146 := n0_; have BK147 := n1_; have BK149 := n2_; have HB := n3_; clear n0_ n1_ n2_ n3_; (try clear hb); (try clear hb2); (try clear hk); (try clear hi); (try clear hcz47_0 hcz47_1 hcz47_2 hcz47_3 hcz47_4 hcz47_5 hfz47_0 hfz47_1 hfz47_2 hfz47_3 hfz47_4 hfz47_5); (try clear hcz49_0 hcz49_1 hcz49_2 hcz49_3 hcz49_4 hcz49_5 hcz49_6 hcz49_7 hfz49_0 hfz49_1 hfz49_2 hfz49_3 hfz49_4 hfz49_5 hfz49_6 hfz49_7); obtain ⟨hcz51_0, hcz51_1, hcz51_2, hcz51_3, hcz51_4, hcz51_5, hcz51_6, hcz51_7⟩ := cc8 BK147; obtain ⟨hfz51_0, hfz51_1, hfz51_2, hfz51_3, hfz51_4, hfz51_5, hfz51_6, hfz51_7⟩ := cf8 BK147))
    refine bodyPost_ret (results_ct rfl _ _ gb147 25 #[.bool false, .int .i64 0, .int .i64 0, .int .i64 0, .bool false, .int .i64 0, .int .i64 0, .int .i64 0] (0, 0) _ rfl (by (with_reducible repeat (first | refine bN ?_ _ | refine bD ?_ | refine bA ?_ _)); refine blk_put (cs := #[.bool false, .int .i64 0, .int .i64 0, .int .i64 0, .bool false, .int .i64 0, .int .i64 0, .int .i64 0]) ?_ 7 _ rfl; (with_reducible repeat (first | refine bN ?_ _ | refine bD ?_ | refine bA ?_ _)); refine blk_put (cs := #[.bool false, .int .i64 0, .int .i64 0, .int .i64 0, .bool false, .int .i64 0, .int .i64 0, .int .i64 0]) ?_ 6 _ rfl; (with_reducible repeat (first | refine bN ?_ _ | refine bD ?_ | refine bA ?_ _)); refine blk_put (cs := #[.bool false, .int .i64 0, .int .i64 0, .int .i64 0, .bool false, .int .i64 0, .int .i64 0, .int .i64 0]) ?_ 5 _ rfl; (with_reducible repeat (first | refine bN ?_ _ | refine bD ?_ | refine bA ?_ _)); refine blk_put (cs := #[.bool false, .int .i64 0, .int .i64 0, .int .i64 0, .bool false, .int .i64 0, .int .i64 0, .int .i64 0]) ?_ 4 _ rfl; (with_reducible repeat (first | refine bN ?_ _ | refine bD ?_ | refine bA ?_ _)); refine blk_put (cs := #[.bool false, .int .i64 0, .int .i64 0, .int .i64 0, .bool false, .int .i64 0, .int .i64 0, .int .i64 0]) ?_ 3 _ rfl; (with_reducible repeat (first | refine bN ?_ _ | refine bD ?_ | refine bA ?_ _)); refine blk_put (cs := #[.bool false, .int .i64 0, .int .i64 0, .int .i64 0, .bool false, .int .i64 0, .int .i64 0, .int .i64 0]) ?_ 2 _ rfl; (with_reducible repeat (first | refine bN ?_ _ | refine bD ?_ | refine bA ?_ _)); refine blk_put (cs := #[.bool false, .int .i64 0, .int .i64 0, .int .i64 0, .bool false, .int .i64 0, .int .i64 0, .int .i64 0]) ?_ 1 _ rfl; (with_reducible repeat (first | refine bN ?_ _ | refine bD ?_ | refine bA ?_ _)); refine blk_put (cs := #[.bool false, .int .i64 0, .int .i64 0, .int .i64 0, .bool false, .int .i64 0, .int .i64 0, .int .i64 0]) ?_ 0 _ rfl; (with_reducible repeat (first | refine bN ?_ _ | refine bD ?_ | refine bA ?_ _)); exact BK147.out) Try.underlying25 rfl (by kernel_rfl)) rfl ?_
    exact ⟨by first | rfl | (simp [errW_none, errW_some] <;> rfl) | (simp [*, errW_none, errW_some] <;> rfl) | (exfalso; contradiction), by repeat (first | (with_reducible first | exact HB.out | apply below_alloc | apply pw_below_drewN | apply below_drew1 | refine below_set ?_ GE146.out | refine below_set ?_ GE147.out | refine below_set ?_ GE149.out) | exact HB.out)⟩

end Go.Proofs.Ytphonmldcbgklaa.P
