-- Written by a program of this session (hprint.py), out of the translation; functions that the print does not take are given by hand.
import Derived.Test.YtngledpkoeioiaaPx0
import Derived.Test.YtngledpkoeioiaaPx1
import Derived.Test.YtngledpkoeioiaaPx2
namespace Go.Proofs.Ytngledpkoeioiaa.P
open Go.RowKit Go.Proofs.YtngledpkoeioiaaM Go.Proofs.YtngledpkoeioiaaW.PrintWords Go.Proofs.YtngledpkoeioiaaW.PrintLast Go.Proofs.YtngledpkoeioiaaW.PrintMore
attribute [local go_sem] max2_int min2_int max_two min_two max_three min_three max_four min_four   -- for this text's walks alone
set_option linter.unusedVariables false
set_option linter.unusedSimpArgs false

/-! ### pat_Most: function 26 -/
def pat_Most.f (a0 : Int) (a1 : Int) (a2 : Int) : Option (Int) := (pat_May.f a0 a1).bind fun t110 => (if t110 = true then ((pat_in.f a2).bind fun t111 => (if t111 = true then ((frac_Ceil.f (wrap64 (a2 * a0)) a1).bind fun bt112 => (some bt112.1)) else (some 0))) else (some 0))
set_option maxHeartbeats 8000000 in
set_option maxRecDepth 100000 in
theorem pat_Most.calls (a0 : Int) (a1 : Int) (a2 : Int) (r : Int) (w : World) (h : pat_Most.f a0 a1 a2 = some r) :
    Calls Try.prog 26 #[.int .i64 a0, .int .i64 a1, .int .i64 a2] w fun e w' => e = .returned (.int .i64 r) ∧ Below w.heap.size w w' := by
  have HB := Aside0.mk (Below.refl w.heap.size w)
  have H : ((pat_May.f a0 a1).bind fun t110 => (if t110 = true then ((pat_in.f a2).bind fun t111 => (if t111 = true then ((frac_Ceil.f (wrap64 (a2 * a0)) a1).bind fun bt112 => (some bt112.1)) else (some 0))) else (some 0))) = some r := h
  clear h
  replace H := Option.bind_eq_some_iff.mp H
  obtain ⟨t110, A40, H⟩ := H
  try dsimp only at H
  have A4 := Aside0.mk A40
  clear A40
  by_cases c5 : t110 = true
  · subst c5
    rw [if_pos rfl] at H
    replace H := Option.bind_eq_some_iff.mp H
    obtain ⟨t111, A60, H⟩ := H
    try dsimp only at H
    have A6 := Aside0.mk A60
    clear A60
    by_cases c7 : t111 = true
    · subst c7
      rw [if_pos rfl] at H
      replace H := Option.bind_eq_some_iff.mp H
      obtain ⟨⟨t112, t113⟩, A80, H⟩ := H
      try dsimp only at H
      have A8 := Aside0.mk A80
      clear A80
      obtain rfl := Option.some.inj H
      go_enter Try.func26, Try.ntmps26
      go_wp2_with (first | ((with_reducible refine gate_callee (f := 34) rfl ?_); refine goesL_ (some 11) rfl rfl Try.func34 (by kernel_rfl) rfl #[.int .i64 a0, .int .i64 a1] rfl (by (try simp only [List.map_toArray, List.map_cons, List.map_nil]); first | done | rfl | (simp only [List.length_drop, List.length_take]; rfl)) ?_; (with_reducible refine (pat_May.calls a0 a1 true _ A4.out).mono ?_); rintro e w' ⟨rfl, ⟨nd, rfl⟩⟩; refine ⟨_, rfl, ?_⟩) | (go_at_call 35; (with_reducible refine (pat_in.calls a2 true _ A6.out).mono ?_); rintro e w' ⟨rfl, ⟨nd, rfl⟩⟩) | ((with_reducible refine gate_callee (f := 29) rfl ?_); refine goesL_ (some 23) rfl rfl Try.func29 (by kernel_rfl) rfl #[.int .i64 (wrap64 (a2 * a0)), .int .i64 a1] rfl (by (try simp only [List.map_toArray, List.map_cons, List.map_nil]); first | done | rfl | (simp only [List.length_drop, List.length_take]; rfl)) ?_; (with_reducible refine (frac_Ceil.calls (wrap64 (a2 * a0)) a1 t112 t113 _ A8.out).mono ?_); rintro e w9 ⟨rfl, hb⟩; refine ⟨_, rfl, ?_⟩; have n0_ := bs HB hb; clear HB; have HB := n0_; clear n0_; (try clear hb); (try clear hb2); (try clear hk); (try clear hi)))
      go_ret
      exact ⟨by first | rfl | (simp [errW_none, errW_some] <;> rfl) | (simp [*, errW_none, errW_some] <;> rfl) | (exfalso; contradiction), by repeat (first | (with_reducible first | exact HB.out | apply below_alloc | apply pw_below_drewN | apply below_drew1) | exact HB.out)⟩
    · replace c7 := Bool.eq_false_iff.mpr c7
      subst c7
      rw [if_neg (show ¬ (false = true) by decide)] at H
      obtain rfl := Option.some.inj H
      go_enter Try.func26, Try.ntmps26
      go_wp2_with (first | ((with_reducible refine gate_callee (f := 34) rfl ?_); refine goesL_ (some 11) rfl rfl Try.func34 (by kernel_rfl) rfl #[.int .i64 a0, .int .i64 a1] rfl (by (try simp only [List.map_toArray, List.map_cons, List.map_nil]); first | done | rfl | (simp only [List.length_drop, List.length_take]; rfl)) ?_; (with_reducible refine (pat_May.calls a0 a1 true _ A4.out).mono ?_); rintro e w' ⟨rfl, ⟨nd, rfl⟩⟩; refine ⟨_, rfl, ?_⟩) | (go_at_call 35; (with_reducible refine (pat_in.calls a2 false _ A6.out).mono ?_); rintro e w' ⟨rfl, ⟨nd, rfl⟩⟩))
      go_ret
      exact ⟨by first | rfl | (simp [errW_none, errW_some] <;> rfl) | (simp [*, errW_none, errW_some] <;> rfl) | (exfalso; contradiction), by repeat (first | (with_reducible first | exact HB.out | apply below_alloc | apply pw_below_drewN | apply below_drew1) | exact HB.out)⟩
  · replace c5 := Bool.eq_false_iff.mpr c5
    subst c5
    rw [if_neg (show ¬ (false = true) by decide)] at H
    obtain rfl := Option.some.inj H
    go_enter Try.func26, Try.ntmps26
    go_wp2_with (first | ((with_reducible refine gate_callee (f := 34) rfl ?_); refine goesL_ (some 11) rfl rfl Try.func34 (by kernel_rfl) rfl #[.int .i64 a0, .int .i64 a1] rfl (by (try simp only [List.map_toArray, List.map_cons, List.map_nil]); first | done | rfl | (simp only [List.length_drop, List.length_take]; rfl)) ?_; (with_reducible refine (pat_May.calls a0 a1 false _ A4.out).mono ?_); rintro e w' ⟨rfl, ⟨nd, rfl⟩⟩; refine ⟨_, rfl, ?_⟩))
    go_ret
    exact ⟨by first | rfl | (simp [errW_none, errW_some] <;> rfl) | (simp [*, errW_none, errW_some] <;> rfl) | (exfalso; contradiction), by repeat (first | (with_reducible first | exact HB.out | apply below_alloc | apply pw_below_drewN | apply below_drew1) | exact HB.out)⟩

/-! ### demand_Of: function 11 -/
def demand_Of.f (a0_0 : Int) (a0_1 : Int) (a0_2 : Int) (a0_3 : Int) (a0_4 : Int) (a0_5 : Int) (a0_6 : Int) (a1 : Int) : Option (Int) := (demand_may.f a0_0 a0_1 a0_2 a0_3 a0_4 a0_5 a0_6).bind fun t115 => (if t115 = true then (if a1 < 0 then (some 0) else (if a1 > 1099511627776 then (some 0) else (if a0_6 = 0 then (none) else ((pat_Most.f a0_3 a0_4 (wrap64 (Int.tdiv a1 a0_6))).bind fun t116 => (some (wrap64 (a0_0 * t116))))))) else (some 0))
def demand_Of.T3 : Bool × List (List Nat × List Nat) := (true, [([], []), ([0], [0]), ([1], [1]), ([], []), ([3], [3]), ([4], [4]), ([], []), ([6], [6]), ([7], [7]), ([], []), ([], []), ([10], [10]), ([9, 11], [9, 11]), ([5, 8, 12], [5, 8, 12]), ([2, 13], [2, 13]), ([14, 13, 0, 1, 2, 3, 4, 5, 6, 7, 8, 9, 10, 11, 12, 13, 14], [14])])
def demand_Of.B3 : List Nat := [0, 1, 3, 0, 8, 24, 0, 64, 192, 0, 0, 1024, 3584, 8184, 16383, 32767]
theorem demand_Of.tab3 : rtab .any (opsOf Try.f11 3) = demand_Of.T3 := by kernel_rfl
theorem demand_Of.bits3 : waitsOk demand_Of.T3.2 demand_Of.B3 = true := by kernel_rfl
set_option maxHeartbeats 8000000 in
set_option maxRecDepth 100000 in
theorem demand_Of.calls (a0_0 : Int) (a0_1 : Int) (a0_2 : Int) (a0_3 : Int) (a0_4 : Int) (a0_5 : Int) (a0_6 : Int) (a1 : Int) (r : Int) (w : World) (h : demand_Of.f a0_0 a0_1 a0_2 a0_3 a0_4 a0_5 a0_6 a1 = some r) :
    Calls Try.prog 11 #[.agg #[.int .i64 a0_0, .int .i64 a0_1, .int .i64 a0_2, .int .i64 a0_3, .int .i64 a0_4, .int .i64 a0_5, .int .i64 a0_6], .int .i64 a1] w fun e w' => e = .returned (.int .i64 r) ∧ Below w.heap.size w w' := by
  have hu26 := Try.underlying26
  have HB := Aside0.mk (Below.refl w.heap.size w)
  have H : ((demand_may.f a0_0 a0_1 a0_2 a0_3 a0_4 a0_5 a0_6).bind fun t115 => (if t115 = true then (if a1 < 0 then (some 0) else (if a1 > 1099511627776 then (some 0) else (if a0_6 = 0 then (none) else ((pat_Most.f a0_3 a0_4 (wrap64 (Int.tdiv a1 a0_6))).bind fun t116 => (some (wrap64 (a0_0 * t116))))))) else (some 0))) = some r := h
  clear h
  replace H := Option.bind_eq_some_iff.mp H
  obtain ⟨t115, A30, H⟩ := H
  try dsimp only at H
  have A3 := Aside0.mk A30
  clear A30
  by_cases c4 : t115 = true
  · subst c4
    rw [if_pos rfl] at H
    by_cases c5 : a1 < 0
    · rw [if_pos c5] at H
      have c5b0 : decide (a1 < 0) = true := decide_eq_true c5
      clear c5
      obtain rfl := Option.some.inj H
      go_enter Try.func11, Try.ntmps11
      go_wp2_with (first | ((with_reducible refine gate_dst (N := 2) rfl ?_); refine box_event ?hg (N := 2) ?hd (cs := #[.int .i64 a0_0, .int .i64 a0_1, .int .i64 a0_2, .int .i64 a0_3, .int .i64 a0_4, .int .i64 a0_5, .int .i64 a0_6]) (t := 26) ?hr ?_; (case hd => rfl); (case hg => rfl); (case hr => first | (go_simp; done) | (go_simp; rfl)); intro gb114 hg w6 hbox hb; have n0_ := bs HB hb; have n1_ := Aside0.mk (hbox); have n2_ := bz HB hg; have n3_ := bz HB hg; clear HB; have HB := n0_; have BK114 := n1_; have GW114 := n2_; have GE114 := n3_; clear n0_ n1_ n2_ n3_; clear hb hbox hg; obtain ⟨hcz7_0, hcz7_1, hcz7_2, hcz7_3, hcz7_4, hcz7_5, hcz7_6⟩ := cc7 BK114; obtain ⟨hfz7_0, hfz7_1, hfz7_2, hfz7_3, hfz7_4, hfz7_5, hfz7_6⟩ := cf7 BK114) | ((with_reducible refine gate_callee (f := 25) rfl ?_); refine goesL_ (some 6) rfl rfl Try.func25 (by kernel_rfl) rfl #[.agg #[.int .i64 a0_0, .int .i64 a0_1, .int .i64 a0_2, .int .i64 a0_3, .int .i64 a0_4, .int .i64 a0_5, .int .i64 a0_6]] rfl (by (try simp only [List.map_toArray, List.map_cons, List.map_nil]); first | done | rfl | (simp only [List.length_drop, List.length_take]; rfl)) ?_; (with_reducible refine (demand_may.calls a0_0 a0_1 a0_2 a0_3 a0_4 a0_5 a0_6 true _ A3.out).mono ?_); rintro e w8 ⟨rfl, hb⟩; refine ⟨_, rfl, ?_⟩; have n0_ := bb BK114 hb; have n1_ := bs HB hb; clear BK114; clear HB; have BK114 := n0_; have HB := n1_; clear n0_ n1_; (try clear hb); (try clear hb2); (try clear hk); (try clear hi)))
      go_ret
      exact ⟨by first | rfl | (simp [errW_none, errW_some] <;> rfl) | (simp [*, errW_none, errW_some] <;> rfl) | (exfalso; contradiction), by repeat (first | (with_reducible first | exact HB.out | apply below_alloc | apply pw_below_drewN | apply below_drew1 | refine below_set ?_ GE114.out) | exact HB.out)⟩
    · rw [if_neg c5] at H
      have c5b0 : decide (a1 < 0) = false := decide_eq_false c5
      clear c5
      by_cases c9 : a1 > 1099511627776
      · rw [if_pos c9] at H
        have c9b0 : decide (1099511627776 < a1) = true := decide_eq_true c9
        clear c9
        obtain rfl := Option.some.inj H
        go_enter Try.func11, Try.ntmps11
        go_wp2_with (first | ((with_reducible refine gate_dst (N := 2) rfl ?_); refine box_event ?hg (N := 2) ?hd (cs := #[.int .i64 a0_0, .int .i64 a0_1, .int .i64 a0_2, .int .i64 a0_3, .int .i64 a0_4, .int .i64 a0_5, .int .i64 a0_6]) (t := 26) ?hr ?_; (case hd => rfl); (case hg => rfl); (case hr => first | (go_simp; done) | (go_simp; rfl)); intro gb114 hg w10 hbox hb; have n0_ := bs HB hb; have n1_ := Aside0.mk (hbox); have n2_ := bz HB hg; have n3_ := bz HB hg; clear HB; have HB := n0_; have BK114 := n1_; have GW114 := n2_; have GE114 := n3_; clear n0_ n1_ n2_ n3_; clear hb hbox hg; obtain ⟨hcz11_0, hcz11_1, hcz11_2, hcz11_3, hcz11_4, hcz11_5, hcz11_6⟩ := cc7 BK114; obtain ⟨hfz11_0, hfz11_1, hfz11_2, hfz11_3, hfz11_4, hfz11_5, hfz11_6⟩ := cf7 BK114) | ((with_reducible refine gate_callee (f := 25) rfl ?_); refine goesL_ (some 6) rfl rfl Try.func25 (by kernel_rfl) rfl #[.agg #[.int .i64 a0_0, .int .i64 a0_1, .int .i64 a0_2, .int .i64 a0_3, .int .i64 a0_4, .int .i64 a0_5, .int .i64 a0_6]] rfl (by (try simp only [List.map_toArray, List.map_cons, List.map_nil]); first | done | rfl | (simp only [List.length_drop, List.length_take]; rfl)) ?_; (with_reducible refine (demand_may.calls a0_0 a0_1 a0_2 a0_3 a0_4 a0_5 a0_6 true _ A3.out).mono ?_); rintro e w12 ⟨rfl, hb⟩; refine ⟨_, rfl, ?_⟩; have n0_ := bb BK114 hb; have n1_ := bs HB hb; clear BK114; clear HB; have BK114 := n0_; have HB := n1_; clear n0_ n1_; (try clear hb); (try clear hb2); (try clear hk); (try clear hi)))
        go_ret
        exact ⟨by first | rfl | (simp [errW_none, errW_some] <;> rfl) | (simp [*, errW_none, errW_some] <;> rfl) | (exfalso; contradiction), by repeat (first | (with_reducible first | exact HB.out | apply below_alloc | apply pw_below_drewN | apply below_drew1 | refine below_set ?_ GE114.out) | exact HB.out)⟩
      · rw [if_neg c9] at H
        have c9b0 : decide (1099511627776 < a1) = false := decide_eq_false c9
        clear c9
        by_cases c13 : a0_6 = 0
        · rw [if_pos c13] at H
          exact absurd H (by simp)
        · rw [if_neg c13] at H
          have c13b0 : (a0_6 == 0) = false := beq_eq_false_iff_ne.mpr c13
          have c13b1 : (a0_6 != 0) = true := bne_iff_ne.mpr c13
          replace H := Option.bind_eq_some_iff.mp H
          obtain ⟨t116, A140, H⟩ := H
          try dsimp only at H
          have A14 := Aside0.mk A140
          clear A140
          obtain rfl := Option.some.inj H
          go_enter Try.func11, Try.ntmps11
          try go_wp2_with (first | ((with_reducible refine gate_dst (N := 2) rfl ?_); refine box_event ?hg (N := 2) ?hd (cs := #[.int .i64 a0_0, .int .i64 a0_1, .int .i64 a0_2, .int .i64 a0_3, .int .i64 a0_4, .int .i64 a0_5, .int .i64 a0_6]) (t := 26) ?hr ?_; (case hd => rfl); (case hg => rfl); (case hr => first | (go_simp; done) | (go_simp; rfl)); intro gb114 hg w15 hbox hb; have n0_ := bs HB hb; have n1_ := Aside0.mk (hbox); have n2_ := bz HB hg; have n3_ := bz HB hg; clear HB; have HB := n0_; have BK114 := n1_; have GW114 := n2_; have GE114 := n3_; clear n0_ n1_ n2_ n3_; clear hb hbox hg; obtain ⟨hcz16_0, hcz16_1, hcz16_2, hcz16_3, hcz16_4, hcz16_5, hcz16_6⟩ := cc7 BK114; obtain ⟨hfz16_0, hfz16_1, hfz16_2, hfz16_3, hfz16_4, hfz16_5, hfz16_6⟩ := cf7 BK114) | ((with_reducible refine gate_callee (f := 25) rfl ?_); refine goesL_ (some 6) rfl rfl Try.func25 (by kernel_rfl) rfl #[.agg #[.int .i64 a0_0, .int .i64 a0_1, .int .i64 a0_2, .int .i64 a0_3, .int .i64 a0_4, .int .i64 a0_5, .int .i64 a0_6]] rfl (by (try simp only [List.map_toArray, List.map_cons, List.map_nil]); first | done | rfl | (simp only [List.length_drop, List.length_take]; rfl)) ?_; (with_reducible refine (demand_may.calls a0_0 a0_1 a0_2 a0_3 a0_4 a0_5 a0_6 true _ A3.out).mono ?_); rintro e w17 ⟨rfl, hb⟩; refine ⟨_, rfl, ?_⟩; have n0_ := bb BK114 hb; have n1_ := bs HB hb; clear BK114; clear HB; have BK114 := n0_; have HB := n1_; clear n0_ n1_; (try clear hb); (try clear hb2); (try clear hk); (try clear hi)))
          have n0_ := Aside0.mk (blk_drew BK114.out)
          have n1_ := Aside0.mk (below_drew1 HB.out)
          clear BK114
          clear HB
          have BK114 := n0_
          have HB := n1_
          clear n0_ n1_
          refine start_ (n := 16) (S := fun w' => w'.cell? ⟨gb114, 0, none⟩ = some (.int .i64 a0_0) ∧ w'.cell? ⟨gb114, 1, none⟩ = some (.int .i64 a0_1) ∧ w'.cell? ⟨gb114, 2, none⟩ = some (.int .i64 a0_2) ∧ w'.cell? ⟨gb114, 3, none⟩ = some (.int .i64 a0_3) ∧ w'.cell? ⟨gb114, 4, none⟩ = some (.int .i64 a0_4) ∧ w'.cell? ⟨gb114, 5, none⟩ = some (.int .i64 a0_5) ∧ w'.cell? ⟨gb114, 6, none⟩ = some (.int .i64 a0_6)) (ds := []) #[false, false, false, false, false, false, false, false, false, false, false, false, false, false, false, false] (by kernel_rfl) rfl rfl ⟨(blk_cell BK114.out 0).trans rfl, (blk_cell BK114.out 1).trans rfl, (blk_cell BK114.out 2).trans rfl, (blk_cell BK114.out 3).trans rfl, (blk_cell BK114.out 4).trans rfl, (blk_cell BK114.out 5).trans rfl, (blk_cell BK114.out 6).trans rfl⟩ (fun hHeld => ?_); refine with_tabW demand_Of.tab3 demand_Of.bits3 (fun HT_ HW_ => ?_)
          generalize w17.drew = w18 at BK114 HB hHeld ⊢
          refine pure_ (i := 0) (N := some 16) (v := ?_) (a' := ?_) #[true, false, false, false, false, false, false, false, false, false, false, false, false, false, false, false] rfl rfl (any_of HT_.out (by kernel_rfl)) (fun _ _ _ h => h) (Or.inl ⟨by rfl, ?_⟩) ?_ ?_
          rotate_left; focus (intro w'; go_simp; with_reducible rfl)
          rotate_left; focus (simp only [Act.put, List.setIfInBounds_toArray, List.set_cons_zero, List.set_cons_succ, i64_w, i32_w]; rfl)
          refine pure_ (i := 1) (N := some 17) (v := ?_) (a' := ?_) #[true, true, false, false, false, false, false, false, false, false, false, false, false, false, false, false] rfl rfl (any_of HT_.out (by kernel_rfl)) (fun _ _ _ h => h) (Or.inl ⟨by rfl, ?_⟩) ?_ ?_
          rotate_left; focus (intro w'; go_simp; with_reducible rfl)
          rotate_left; focus (simp only [Act.put, List.setIfInBounds_toArray, List.set_cons_zero, List.set_cons_succ, i64_w, i32_w]; rfl)
          refine pure_ (i := 3) (N := some 19) (v := ?_) (a' := ?_) #[true, true, false, true, false, false, false, false, false, false, false, false, false, false, false, false] rfl rfl (any_of HT_.out (by kernel_rfl)) (fun _ _ _ h => h) (Or.inl ⟨by rfl, ?_⟩) ?_ ?_
          rotate_left; focus (intro w'; go_simp; with_reducible rfl)
          rotate_left; focus (simp only [Act.put, List.setIfInBounds_toArray, List.set_cons_zero, List.set_cons_succ, i64_w, i32_w]; rfl)
          refine pure_ (i := 4) (N := some 20) (v := ?_) (a' := ?_) #[true, true, false, true, true, false, false, false, false, false, false, false, false, false, false, false] rfl rfl (any_of HT_.out (by kernel_rfl)) (fun _ _ _ h => h) (Or.inl ⟨by rfl, ?_⟩) ?_ ?_
          rotate_left; focus (intro w'; go_simp; with_reducible rfl)
          rotate_left; focus (simp only [Act.put, List.setIfInBounds_toArray, List.set_cons_zero, List.set_cons_succ, i64_w, i32_w]; rfl)
          refine pure_ (i := 6) (N := some 22) (v := ?_) (a' := ?_) #[true, true, false, true, true, false, true, false, false, false, false, false, false, false, false, false] rfl rfl (any_of HT_.out (by kernel_rfl)) (fun _ _ _ h => h) (Or.inl ⟨by rfl, ?_⟩) ?_ ?_
          rotate_left; focus (intro w'; go_simp; with_reducible rfl)
          rotate_left; focus (simp only [Act.put, List.setIfInBounds_toArray, List.set_cons_zero, List.set_cons_succ, i64_w, i32_w]; rfl)
          refine pure_ (i := 7) (N := some 23) (v := ?_) (a' := ?_) #[true, true, false, true, true, false, true, true, false, false, false, false, false, false, false, false] rfl rfl (any_of HT_.out (by kernel_rfl)) (fun _ _ _ h => h) (Or.inl ⟨by rfl, ?_⟩) ?_ ?_
          rotate_left; focus (intro w'; go_simp; with_reducible rfl)
          rotate_left; focus (simp only [Act.put, List.setIfInBounds_toArray, List.set_cons_zero, List.set_cons_succ, i64_w, i32_w]; rfl)
          refine pure_ (i := 9) (N := some 25) (v := ?_) (a' := ?_) #[true, true, false, true, true, false, true, true, false, true, false, false, false, false, false, false] rfl rfl (any_of HT_.out (by kernel_rfl)) (fun _ _ _ h => h) (Or.inl ⟨by rfl, ?_⟩) ?_ ?_
          rotate_left; focus (intro w'; go_simp; with_reducible rfl)
          rotate_left; focus (simp only [Act.put, List.setIfInBounds_toArray, List.set_cons_zero, List.set_cons_succ, i64_w, i32_w]; rfl)
          refine pure_ (i := 10) (N := some 26) (v := ?_) (a' := ?_) #[true, true, false, true, true, false, true, true, false, true, true, false, false, false, false, false] rfl rfl (any_of HT_.out (by kernel_rfl)) (fun _ _ _ h => h) (Or.inl ⟨by rfl, ?_⟩) ?_ ?_
          rotate_left; focus (intro w'; go_simp; with_reducible rfl)
          rotate_left; focus (simp only [Act.put, List.setIfInBounds_toArray, List.set_cons_zero, List.set_cons_succ, i64_w, i32_w]; rfl)
          refine take_ (i := 2) (N := some 18) (v := ?_) (a' := ?_) #[true, true, true, true, true, false, true, true, false, true, true, false, false, false, false, false] rfl rfl (take_ofW HT_.out HW_.out (by kernel_rfl)) (fun _ _ _ h => h) (Or.inl ⟨by rfl, ?_⟩) hHeld ?_ ?_
          rotate_left
          · rintro w' ⟨s0, s1, s2, s3, s4, s5, s6⟩
            go_simp
            with_reducible rfl
          rotate_left; focus (simp only [Act.put, List.setIfInBounds_toArray, List.set_cons_zero, List.set_cons_succ, i64_w, i32_w]; rfl)
          refine take_ (i := 5) (N := some 21) (v := ?_) (a' := ?_) #[true, true, true, true, true, true, true, true, false, true, true, false, false, false, false, false] rfl rfl (take_ofW HT_.out HW_.out (by kernel_rfl)) (fun _ _ _ h => h) (Or.inl ⟨by rfl, ?_⟩) hHeld ?_ ?_
          rotate_left
          · rintro w' ⟨s0, s1, s2, s3, s4, s5, s6⟩
            go_simp
            with_reducible rfl
          rotate_left; focus (simp only [Act.put, List.setIfInBounds_toArray, List.set_cons_zero, List.set_cons_succ, i64_w, i32_w]; rfl)
          refine take_ (i := 8) (N := some 24) (v := ?_) (a' := ?_) #[true, true, true, true, true, true, true, true, true, true, true, false, false, false, false, false] rfl rfl (take_ofW HT_.out HW_.out (by kernel_rfl)) (fun _ _ _ h => h) (Or.inl ⟨by rfl, ?_⟩) hHeld ?_ ?_
          rotate_left
          · rintro w' ⟨s0, s1, s2, s3, s4, s5, s6⟩
            go_simp
            with_reducible rfl
          rotate_left; focus (simp only [Act.put, List.setIfInBounds_toArray, List.set_cons_zero, List.set_cons_succ, i64_w, i32_w]; rfl)
          refine take_ (i := 11) (N := some 27) (v := ?_) (a' := ?_) #[true, true, true, true, true, true, true, true, true, true, true, true, false, false, false, false] rfl rfl (take_ofW HT_.out HW_.out (by kernel_rfl)) (fun _ _ _ h => h) (Or.inl ⟨by rfl, ?_⟩) hHeld ?_ ?_
          rotate_left
          · rintro w' ⟨s0, s1, s2, s3, s4, s5, s6⟩
            go_simp
            with_reducible rfl
          rotate_left; focus (simp only [Act.put, List.setIfInBounds_toArray, List.set_cons_zero, List.set_cons_succ, i64_w, i32_w]; rfl)
          refine pure_ (i := 12) (N := some 28) (v := ?_) (a' := ?_) #[true, true, true, true, true, true, true, true, true, true, true, true, true, false, false, false] rfl rfl (any_of HT_.out (by kernel_rfl)) (fun _ _ _ h => h) (Or.inl ⟨by rfl, ?_⟩) ?_ ?_
          rotate_left; focus (intro w'; go_simp; with_reducible rfl)
          rotate_left; focus (simp only [Act.put, List.setIfInBounds_toArray, List.set_cons_zero, List.set_cons_succ, i64_w, i32_w]; rfl)
          refine one_ (i := 13) (N := some 29) #[true, true, true, true, true, true, true, true, true, true, true, true, true, true, false, false] rfl rfl (one_of HT_.out (by kernel_rfl)) (by decide) (fun K hK => ?_)
          refine goes_ Try.func26 (by kernel_rfl) rfl #[.int .i64 a0_3, .int .i64 a0_4, .int .i64 (wrap64 (Int.tdiv a1 a0_6))] (by rfl) rfl rfl (by (try simp only [List.map_toArray, List.map_cons, List.map_nil]); first | done | rfl | (simp only [List.length_drop, List.length_take]; rfl)) ?_
          with_reducible refine (pat_Most.calls a0_3 a0_4 (wrap64 (Int.tdiv a1 a0_6)) t116 _ A14.out).mono ?_
          rintro e w19 ⟨rfl, hb⟩
          refine ⟨_, rfl, ?_⟩
          have n0_ := bb BK114 hb
          have n1_ := bs HB hb
          clear BK114
          clear HB
          have BK114 := n0_
          have HB := n1_
          clear n0_ n1_
          (try clear hb)
          (try clear hb2)
          (try clear hk)
          (try clear hi)
          refine hK.out _ _ ⟨(blk_cell BK114.out 0).trans rfl, (blk_cell BK114.out 1).trans rfl, (blk_cell BK114.out 2).trans rfl, (blk_cell BK114.out 3).trans rfl, (blk_cell BK114.out 4).trans rfl, (blk_cell BK114.out 5).trans rfl, (blk_cell BK114.out 6).trans rfl⟩ (fun hHeld => ?_)
          clear hK K
          refine norm_ (a' := ?_) ?_ ?_
          rotate_left
          · show Act.put _ (some 29) _ = _
            simp only [Act.put, List.setIfInBounds_toArray, List.set_cons_zero, List.set_cons_succ, i64_w, i32_w]
            rfl
          refine pure_ (i := 14) (N := some 30) (v := ?_) (a' := ?_) #[true, true, true, true, true, true, true, true, true, true, true, true, true, true, true, false] rfl rfl (any_of HT_.out (by kernel_rfl)) (fun _ _ _ h => h) (Or.inl ⟨by rfl, ?_⟩) ?_ ?_
          rotate_left; focus (intro w'; go_simp; with_reducible rfl)
          rotate_left; focus (simp only [Act.put, List.setIfInBounds_toArray, List.set_cons_zero, List.set_cons_succ, i64_w, i32_w]; rfl)
          refine pure_ (i := 15) (N := some 4) (v := ?_) (a' := ?_) #[true, true, true, true, true, true, true, true, true, true, true, true, true, true, true, true] rfl rfl (any_of HT_.out (by kernel_rfl)) (fun _ _ _ h => h) (Or.inl ⟨by rfl, ?_⟩) ?_ ?_
          rotate_left; focus (intro w'; go_simp; with_reducible rfl)
          rotate_left; focus (simp only [Act.put, List.setIfInBounds_toArray, List.set_cons_zero, List.set_cons_succ, i64_w, i32_w]; rfl)
          refine done_ (done_of HT_.out (by kernel_rfl)) ?_
          try go_wp2
          go_ret
          exact ⟨by first | rfl | (simp [errW_none, errW_some] <;> rfl) | (simp [*, errW_none, errW_some] <;> rfl) | (exfalso; contradiction), by repeat (first | (with_reducible first | exact HB.out | apply below_alloc | apply pw_below_drewN | apply below_drew1 | refine below_set ?_ GE114.out) | exact HB.out)⟩
  · replace c4 := Bool.eq_false_iff.mpr c4
    subst c4
    rw [if_neg (show ¬ (false = true) by decide)] at H
    obtain rfl := Option.some.inj H
    go_enter Try.func11, Try.ntmps11
    go_wp2_with (first | ((with_reducible refine gate_dst (N := 2) rfl ?_); refine box_event ?hg (N := 2) ?hd (cs := #[.int .i64 a0_0, .int .i64 a0_1, .int .i64 a0_2, .int .i64 a0_3, .int .i64 a0_4, .int .i64 a0_5, .int .i64 a0_6]) (t := 26) ?hr ?_; (case hd => rfl); (case hg => rfl); (case hr => first | (go_simp; done) | (go_simp; rfl)); intro gb114 hg w20 hbox hb; have n0_ := bs HB hb; have n1_ := Aside0.mk (hbox); have n2_ := bz HB hg; have n3_ := bz HB hg; clear HB; have HB := n0_; have BK114 := n1_; have GW114 := n2_; have GE114 := n3_; clear n0_ n1_ n2_ n3_; clear hb hbox hg; obtain ⟨hcz21_0, hcz21_1, hcz21_2, hcz21_3, hcz21_4, hcz21_5, hcz21_6⟩ := cc7 BK114; obtain ⟨hfz21_0, hfz21_1, hfz21_2, hfz21_3, hfz21_4, hfz21_5, hfz21_6⟩ := cf7 BK114) | ((with_reducible refine gate_callee (f := 25) rfl ?_); refine goesL_ (some 6) rfl rfl Try.func25 (by kernel_rfl) rfl #[.agg #[.int .i64 a0_0, .int .i64 a0_1, .int .i64 a0_2, .int .i64 a0_3, .int .i64 a0_4, .int .i64 a0_5, .int .i64 a0_6]] rfl (by (try simp only [List.map_toArray, List.map_cons, List.map_nil]); first | done | rfl | (simp only [List.length_drop, List.length_take]; rfl)) ?_; (with_reducible refine (demand_may.calls a0_0 a0_1 a0_2 a0_3 a0_4 a0_5 a0_6 false _ A3.out).mono ?_); rintro e w22 ⟨rfl, hb⟩; refine ⟨_, rfl, ?_⟩; have n0_ := bb BK114 hb; have n1_ := bs HB hb; clear BK114; clear HB; have BK114 := n0_; have HB := n1_; clear n0_ n1_; (try clear hb); (try clear hb2); (try clear hk); (try clear hi)))
    go_ret
    exact ⟨by first | rfl | (simp [errW_none, errW_some] <;> rfl) | (simp [*, errW_none, errW_some] <;> rfl) | (exfalso; contradiction), by repeat (first | (with_reducible first | exact HB.out | apply below_alloc | apply pw_below_drewN | apply below_drew1 | refine below_set ?_ GE114.out) | exact HB.out)⟩

-- NOT PRINTED: function 46 (units_limits)

/-! ### units_Sum: function 38 -/
def units_Sum.bad (x : Int) : Bool := decide (x < 0) || decide (1099511627776 < x)
def units_Sum.f (l0 : List Int) : Option (Int × Bool) := if l0.length ≤ 1000 ∧ l0.any units_Sum.bad = false then some (l0.sum, true) else some (0, false)
def units_Sum.go (s : Int) : List Int → Option (Int × Bool)
  | [] => some (s, true)
  | x :: t => if units_Sum.bad x = true then some (0, false) else units_Sum.go (s + x) t
theorem units_Sum.go_eq : ∀ (l : List Int) (s : Int), units_Sum.go s l = if l.any units_Sum.bad = false then some (s + l.sum, true) else some (0, false)
  | [], s => by simp [units_Sum.go]
  | x :: t, s => by
    rw [units_Sum.go, units_Sum.go_eq t (s + x)]
    cases h : units_Sum.bad x with
    | true => simp [h]
    | false => simp [h, Int.add_assoc]
theorem units_Sum.f_go (l : List Int) (h : l.length ≤ 1000) : units_Sum.f l = units_Sum.go 0 l := by
  rw [units_Sum.go_eq]
  unfold units_Sum.f
  simp [h]
theorem units_Sum.drop_go (l : List Int) (i : Nat) (s : Int) (h : i < l.length) : units_Sum.go s (l.drop i) = if units_Sum.bad (l.getD i 0) = true then some (0, false) else units_Sum.go (s + l.getD i 0) (l.drop (i + 1)) := by
  rw [List.drop_eq_getElem_cons h, units_Sum.go]
  simp [List.getD_eq_getElem?_getD, List.getElem?_eq_getElem h]
theorem units_limits.calls (w : World) :
    Calls Try.prog 46 #[] w fun e w' => e = .returned (.agg #[.int .i64 0, .int .i64 1099511627776]) ∧ Below w.heap.size w w' := by
  go_enter Try.func46, Try.ntmps46
  go_wp2
  refine bodyPost_ret (v := .agg #[.int .i64 0, .int .i64 1099511627776]) (by simp [results, Try.results46, go_sem]) rfl ⟨rfl, by repeat (first | exact Below.refl _ _ | apply below_alloc)⟩
/-- What stands at a round's head: so much is summed up, so much is left. -/
def units_Sum.rel (w : World) (g : Nat) (r1 : Int) (r2 : Bool) (s : Int) (ls : List Int) (A : Option Addr) (c : Nat) (W : World) : Prop :=
  units_Sum.go s ls = some (r1, r2) ∧ 0 ≤ s ∧ s + ls.length * 1099511627776 ≤ 1099511627776000 ∧ ls.length ≤ c ∧ Kd.C (Kd.int .i64) W A ls.length ls ∧ Below w.heap.size w W ∧ W.heap[g]? = some (.cells #[.int .i64 0, .int .i64 1099511627776] 68 (0, 0))
set_option maxHeartbeats 16000000 in
set_option maxRecDepth 100000 in
theorem units_Sum.calls (A0 : Option Addr) (c0 : Nat) (l0 : List Int) (r1 : Int) (r2 : Bool) (w : World) (hr0 : Kd.C (Kd.int .i64) w A0 l0.length l0) (hc0 : l0.length ≤ c0) (h : units_Sum.f l0 = some (r1, r2)) :
    Calls Try.prog 38 #[.slice A0 l0.length c0] w fun e w' => e = .returned (.tuple #[.int .i64 r1, .bool r2]) ∧ Below w.heap.size w w' := by
  have HR := Aside0.mk hr0
  have HC := Aside0.mk hc0
  have HH := Aside0.mk h
  clear hr0 hc0 h
  by_cases c1 : 1000 < l0.length
  · have hd : decide ((1000 : Int) < (l0.length : Int)) = true := decide_eq_true (by omega)
    have H : units_Sum.f l0 = some (0, false) := by unfold units_Sum.f; rw [if_neg (by omega)]
    have H2 := HH.out
    rw [H] at H2
    simp only [Option.some.injEq, Prod.mk.injEq] at H2
    obtain ⟨rfl, rfl⟩ := H2
    clear H c1 HH
    go_enter Try.func38, Try.ntmps38
    go_wp2
    go_ret2
    exact ⟨rfl, by repeat (first | exact Below.refl _ _ | apply below_alloc | apply pw_below_drewN | apply below_drew1)⟩
  · have hd : decide ((1000 : Int) < (l0.length : Int)) = false := decide_eq_false (by omega)
    have H2 := HH.out
    rw [units_Sum.f_go l0 (by omega)] at H2
    have HL := Aside0.mk c1
    have HG := Aside0.mk H2
    clear H2 c1 HH
    go_enter Try.func38, Try.ntmps38
    go_wp2_with (go_at_call 46; refine (units_limits.calls _).mono ?_; rintro e w1 ⟨rfl, hb⟩; have B := Aside0.mk hb; clear hb)
    go_loopw [5, 6] (fun n rest wr => ∃ (s : Int) (ls : List Int) (A : Option Addr) (c : Nat), n = .int .i64 s ∧ rest = .slice A ls.length c ∧ Aside0 (units_Sum.rel w w1.heap.size r1 r2 s ls A c wr)) (fun _ rest _ => match rest with | .slice _ n _ => n | _ => 0)
    case atStart => exact ⟨0, l0, A0, c0, rfl, rfl, ⟨HG.out, by omega, by have := HL.out; omega, HC.out, Kd.C_alloc (Kd.C_below HR.out B.out) _, below_alloc B.out _, blk_new _ _⟩⟩
    case round =>
      clear HR HC HG HL B
      obtain ⟨s, ls, A, c, rfl, rfl, F⟩ := hrel
      by_cases c2 : 0 < ls.length
      · have d2 : decide (0 < ls.length) = true := decide_eq_true c2
        obtain ⟨k, hk⟩ : ∃ k : Nat, k = min 4 ls.length := ⟨_, rfl⟩
        have hmn : (if (ls.length : Int) < 4 then (ls.length : Int) else 4) = (k : Int) := by subst hk; split <;> omega
        have K1 := Aside0.mk (show 1 ≤ k ∧ k ≤ 4 ∧ k ≤ ls.length by omega)
        have hcut := cut_max (P := Try.prog) 43 3 .i64 .i64 Try.underlying43 (show Try.prog.info? 3 = some _ from rfl) A ls.length c (k : Int) (by omega) (by have := F.out.2.2.2.1; have := K1.out; omega)
        rw [Int.toNat_natCast] at hcut
        obtain ⟨ad, hA, _⟩ := Kd.at_int F.out.2.2.2.2.1 0 (by omega) (by omega)
        subst hA
        have z0 : wr.cell? ⟨w1.heap.size, 0, none⟩ = some (.int .i64 0) := (blk_cell F.out.2.2.2.2.2.2 0).trans rfl
        have z1 : wr.cell? ⟨w1.heap.size, 1, none⟩ = some (.int .i64 1099511627776) := (blk_cell F.out.2.2.2.2.2.2 1).trans rfl
        clear hk c2
        go_wp2
        go_loop [5, 26] (fun n i => ∃ (q : Nat) (s' : Int), n = .int .i64 s' ∧ i = .int .i64 q ∧ Aside0 (q ≤ k ∧ units_Sum.go s' (ls.drop q) = some (r1, r2) ∧ 0 ≤ s' ∧ s' + (ls.length - q) * 1099511627776 ≤ 1099511627776000)) (fun _ i => k - (intOf i).toNat)
        case atStart => exact ⟨0, s, rfl, rfl, ⟨by omega, F.out.1, F.out.2.1, by have := F.out.2.2.1; omega⟩⟩
        case round =>
          obtain ⟨q, s', rfl, rfl, G⟩ := hrel
          by_cases c3 : q < k
          · have e3 : decide (q < k) = true := decide_eq_true c3
            have hc := (Kd.at_int F.out.2.2.2.2.1 (q : Int) (by omega) (by have := K1.out; omega))
            obtain ⟨ad', ha, hc⟩ := hc
            obtain rfl : ad = ad' := Option.some.inj ha
            rw [Int.toNat_natCast] at hc
            have hg := units_Sum.drop_go ls q s' (by have := K1.out; omega)
            rw [G.out.2.1] at hg
            have hx : rd ls (q : Int) = ls.getD q 0 := by unfold rd; rw [Int.toNat_natCast]
            rw [hx] at hc
            generalize ls.getD q 0 = x at *
            have HX := Aside0.mk hg.symm
            clear hg hx ha
            have kq := K1.out
            by_cases c4 : x < 0
            · have e4 : decide (x < 0) = true := decide_eq_true c4
              have H2 := HX.out
              rw [if_pos (by unfold units_Sum.bad; rw [e4]; rfl)] at H2
              simp only [Option.some.injEq, Prod.mk.injEq] at H2
              obtain ⟨rfl, rfl⟩ := H2
              clear c4 kq
              go_wp2
              go_ret2
              exact ⟨rfl, by repeat (first | exact F.out.2.2.2.2.2.1 | apply below_alloc | apply pw_below_drewN | apply below_drew1)⟩
            · have e4 : decide (x < 0) = false := decide_eq_false c4
              by_cases c5 : 1099511627776 < x
              · have e5 : decide (1099511627776 < x) = true := decide_eq_true c5
                have H2 := HX.out
                rw [if_pos (by unfold units_Sum.bad; rw [e5, Bool.or_true])] at H2
                simp only [Option.some.injEq, Prod.mk.injEq] at H2
                obtain ⟨rfl, rfl⟩ := H2
                clear c4 c5 kq
                go_wp2
                go_ret2
                exact ⟨rfl, by repeat (first | exact F.out.2.2.2.2.2.1 | apply below_alloc | apply pw_below_drewN | apply below_drew1)⟩
              · have e5 : decide (1099511627776 < x) = false := decide_eq_false c5
                have H2 := HX.out
                rw [if_neg (by unfold units_Sum.bad; rw [e4, e5]; decide)] at H2
                have G2 := Aside0.mk (show q + 1 ≤ k ∧ units_Sum.go (s' + x) (ls.drop (q + 1)) = some (r1, r2) ∧ 0 ≤ s' + x ∧ s' + x + (ls.length - (q + 1 : Nat)) * 1099511627776 ≤ 1099511627776000 from ⟨by omega, H2, by have := G.out.2.2.1; omega, by have := G.out.2.2.2; omega⟩)
                have b1 : 0 ≤ s' := G.out.2.2.1
                have b2 : s' ≤ 1099511627776000 := by have := G.out.2.2.2; omega
                clear H2 HX G
                go_wp2
                go_round
                case rel => exact ⟨q + 1, s' + x, rfl, by go_num, G2⟩
                case measure => simp [intOf]; omega
          · have e3 : decide (q < k) = false := decide_eq_false c3
            have hqk : q = k := by have := G.out.1; omega
            subst hqk
            clear c3
            have D := Kd.C_drop (m := q) F.out.2.2.2.2.1 (by have := K1.out; omega) F.out.2.2.2.1
            have el : (ls.drop q).length = ls.length - q := List.length_drop
            have R2 := Aside0.mk (show units_Sum.rel w w1.heap.size r1 r2 s' (ls.drop q) (if c = q then some ad else some (ad.add q)) (c - q) wr from
              ⟨G.out.2.1, G.out.2.2.1, by rw [el]; have := G.out.2.2.2; have := K1.out; omega, by rw [el]; have := F.out.2.2.2.1; omega, by simpa [Kd.int, Kd.scalar] using D, F.out.2.2.2.2.2.1, F.out.2.2.2.2.2.2⟩)
            have EL := Aside0.mk el
            clear D el
            go_wp2
            exact ⟨⟨s', ls.drop q, _, _, rfl, by rw [EL.out], R2⟩, by show ls.length - q < ls.length; have := K1.out; omega⟩
      · have d2 : decide (0 < ls.length) = false := decide_eq_false c2
        have hn : ls = [] := List.eq_nil_of_length_eq_zero (by omega)
        have H2 := F.out.1
        rw [hn, units_Sum.go] at H2
        simp only [Option.some.injEq, Prod.mk.injEq] at H2
        obtain ⟨rfl, rfl⟩ := H2
        clear hn c2
        go_wp2
        go_ret2
        exact ⟨rfl, by repeat (first | exact F.out.2.2.2.2.2.1 | apply below_alloc | apply pw_below_drewN | apply below_drew1)⟩

/-! ### units_Fits: function 28 -/
def units_Fits.f (l0 : List Int) : Option (Bool) := (units_Sum.f l0).bind fun bt117 => (if bt117.2 = true then (some (decide (bt117.1 ≤ 983040))) else (some false))
set_option maxHeartbeats 8000000 in
set_option maxRecDepth 100000 in
theorem units_Fits.calls (A0 : Option Addr) (c0 : Nat) (l0 : List Int) (r : Bool) (w : World) (hr0 : Kd.C (Kd.int .i64) w A0 l0.length l0) (hc0 : l0.length ≤ c0) (h : units_Fits.f l0 = some r) :
    Calls Try.prog 28 #[.slice A0 l0.length c0] w fun e w' => e = .returned (.bool r) ∧ Below w.heap.size w w' := by
  have HR0 := Aside0.mk hr0
  have HC0 := Aside0.mk hc0
  clear hr0 hc0
  have HB := Aside0.mk (Below.refl w.heap.size w)
  have H : ((units_Sum.f l0).bind fun bt117 => (if bt117.2 = true then (some (decide (bt117.1 ≤ 983040))) else (some false))) = some r := h
  clear h
  replace H := Option.bind_eq_some_iff.mp H
  obtain ⟨⟨t117, t118⟩, A20, H⟩ := H
  try dsimp only at H
  have A2 := Aside0.mk A20
  clear A20
  by_cases c3 : t118 = true
  · subst c3
    rw [if_pos rfl] at H
    obtain rfl := Option.some.inj H
    go_enter Try.func28, Try.ntmps28
    go_wp2_with (first | ((with_reducible refine gate_callee (f := 38) rfl ?_); refine goesL_ (some 7) rfl rfl Try.func38 (by kernel_rfl) rfl #[.slice A0 l0.length c0] rfl (by (try simp only [List.map_toArray, List.map_cons, List.map_nil]); first | done | rfl | (simp only [List.length_drop, List.length_take]; rfl)) ?_; (with_reducible refine (units_Sum.calls _ _ l0 t117 true _ ?side1 ?side2 A2.out).mono ?_); (case side1 => repeat (first | exact HR0.out | (with_reducible refine Kd.C_alloc ?_ _) | (with_reducible refine Kd.C_drewN ?_ _) | (with_reducible refine Kd.C_drew ?_))); (case side2 => exact HC0.out); rintro e w4 ⟨rfl, hb⟩; refine ⟨_, rfl, ?_⟩; have n0_ := bs HB hb; clear HB; have HB := n0_; clear n0_; (try clear hb); (try clear hb2); (try clear hk); (try clear hi)))
    go_ret
    exact ⟨by first | rfl | (simp [errW_none, errW_some] <;> rfl) | (simp [*, errW_none, errW_some] <;> rfl) | (exfalso; contradiction), by repeat (first | (with_reducible first | exact HB.out | apply below_alloc | apply pw_below_drewN | apply below_drew1) | exact HB.out)⟩
  · replace c3 := Bool.eq_false_iff.mpr c3
    subst c3
    rw [if_neg (show ¬ (false = true) by decide)] at H
    obtain rfl := Option.some.inj H
    go_enter Try.func28, Try.ntmps28
    go_wp2_with (first | ((with_reducible refine gate_callee (f := 38) rfl ?_); refine goesL_ (some 7) rfl rfl Try.func38 (by kernel_rfl) rfl #[.slice A0 l0.length c0] rfl (by (try simp only [List.map_toArray, List.map_cons, List.map_nil]); first | done | rfl | (simp only [List.length_drop, List.length_take]; rfl)) ?_; (with_reducible refine (units_Sum.calls _ _ l0 t117 false _ ?side1 ?side2 A2.out).mono ?_); (case side1 => repeat (first | exact HR0.out | (with_reducible refine Kd.C_alloc ?_ _) | (with_reducible refine Kd.C_drewN ?_ _) | (with_reducible refine Kd.C_drew ?_))); (case side2 => exact HC0.out); rintro e w5 ⟨rfl, hb⟩; refine ⟨_, rfl, ?_⟩; have n0_ := bs HB hb; clear HB; have HB := n0_; clear n0_; (try clear hb); (try clear hb2); (try clear hk); (try clear hi)))
    go_ret
    exact ⟨by first | rfl | (simp [errW_none, errW_some] <;> rfl) | (simp [*, errW_none, errW_some] <;> rfl) | (exfalso; contradiction), by repeat (first | (with_reducible first | exact HB.out | apply below_alloc | apply pw_below_drewN | apply below_drew1) | exact HB.out)⟩

end Go.Proofs.Ytngledpkoeioiaa.P
