-- Written by a program of this session (hprint.py), out of the translation; functions that the print does not take are given by hand.
import Derived.Test.YtphonmldcbgklaaPx0
import Derived.Test.YtphonmldcbgklaaPx17
namespace Go.Proofs.Ytphonmldcbgklaa.P
open Go.RowKit Go.Proofs.YtphonmldcbgklaaM Go.Proofs.YtphonmldcbgklaaW.PrintWords Go.Proofs.YtphonmldcbgklaaW.PrintLast Go.Proofs.YtphonmldcbgklaaW.PrintMore
attribute [local go_sem] max2_int min2_int max_two min_two max_three min_three max_four min_four   -- for this text's walks alone
set_option linter.unusedVariables false
set_option linter.unusedSimpArgs false

/-! ### ring_Good: function 15 -/
def ring_Good.f (a0_0 : Int) (a0_1 : Int) (a1 : Int) : Option (Int) := (ring_of.f a0_0 a0_1).bind fun bt433 => ((ring_mask.f (mn (mx a1 0) bt433.1)).bind fun t436 => ((bits_OnesCount64.f (Go.bits .and .u64 bt433.2 t436)).bind fun t437 => (some t437)))
set_option maxHeartbeats 8000000 in
set_option maxRecDepth 100000 in
theorem ring_Good.calls (a0_0 : Int) (a0_1 : Int) (a1 : Int) (r : Int) (w : World) (h : ring_Good.f a0_0 a0_1 a1 = some r) :
    Calls Try.prog 15 #[.agg #[.int .i64 a0_0, .int .u64 a0_1], .int .i64 a1] w fun e w' => e = .returned (.int .i64 r) ∧ Below w.heap.size w w' := by
  have hu28 := Try.underlying28
  have hu70 := Try.underlying70
  have HB := Aside0.mk (Below.refl w.heap.size w)
  have H : ((ring_of.f a0_0 a0_1).bind fun bt433 => ((ring_mask.f (mn (mx a1 0) bt433.1)).bind fun t436 => ((bits_OnesCount64.f (Go.bits .and .u64 bt433.2 t436)).bind fun t437 => (some t437)))) = some r := h
  clear h
  replace H := Option.bind_eq_some_iff.mp H
  obtain ⟨⟨t433, t434⟩, A30, H⟩ := H
  try dsimp only at H
  have A3 := Aside0.mk A30
  clear A30
  obtain ⟨ji4, hji4⟩ : ∃ j_ : Int, (mx a1 0) = j_ := ⟨_, rfl⟩
  replace H : ((ring_mask.f (mn (ji4) t433)).bind fun t436 => ((bits_OnesCount64.f (Go.bits .and .u64 t434 t436)).bind fun t437 => (some t437))) = some r := by first | (rw [hji4] at H; exact H) | (simp only [hji4] at H ⊢; exact H)
  (try rw [hji4] at A3)
  (try (have hji4l : 0 ≤ ji4 := by (rw [← hji4]; unfold mx; (repeat' split) <;> omega)))
  (try (have hji4m : 0 ≤ ji4 := by omega))
  have hji4_ : (if a1 < 0 then 0 else a1) = ji4 := hji4
  obtain ⟨ji5, hji5⟩ : ∃ j_ : Int, (mn (ji4) t433) = j_ := ⟨_, rfl⟩
  replace H : ((ring_mask.f (ji5)).bind fun t436 => ((bits_OnesCount64.f (Go.bits .and .u64 t434 t436)).bind fun t437 => (some t437))) = some r := by first | (rw [hji5] at H; exact H) | (simp only [hji5] at H ⊢; exact H)
  (try rw [hji5] at A3)
  have hji5_ : (if t433 < (ji4) then t433 else (ji4)) = ji5 := hji5
  replace H := Option.bind_eq_some_iff.mp H
  obtain ⟨t436, A60, H⟩ := H
  try dsimp only at H
  have A6 := Aside0.mk A60
  clear A60
  replace H := Option.bind_eq_some_iff.mp H
  obtain ⟨t437, A70, H⟩ := H
  try dsimp only at H
  have A7 := Aside0.mk A70
  clear A70
  obtain rfl := Option.some.inj H
  go_enter Try.func15, Try.ntmps15
  go_wp2_with (first | ((with_reducible refine gate_dst (N := 2) rfl ?_); refine box_event ?hg (N := 2) ?hd (cs := #[.int .i64 a0_0, .int .u64 a0_1]) (t := 28) ?hr ?_; (case hd => rfl); (case hg => rfl); (case hr => first | (go_simp; done) | (go_simp; rfl)); intro gb432 hg w8 hbox hb; have n0_ := bs HB hb; have n1_ := Aside0.mk (hbox); have n2_ := bz HB hg; have n3_ := bz HB hg; clear HB; have HB := n0_; have BK432 := n1_; have GW432 := n2_; have GE432 := n3_; clear n0_ n1_ n2_ n3_; clear hb hbox hg; obtain ⟨hcz9_0, hcz9_1⟩ := cc2 BK432; obtain ⟨hfz9_0, hfz9_1⟩ := cf2 BK432) | (go_at_call 32; (with_reducible refine (ring_of.calls a0_0 a0_1 t433 t434 _ A3.out).mono ?_); rintro e w10 ⟨rfl, hb⟩; have n0_ := bb BK432 hb; have n1_ := bs HB hb; clear BK432; clear HB; have BK432 := n0_; have HB := n1_; clear n0_ n1_; (try clear hb); (try clear hb2); (try clear hk); (try clear hi)) | ((with_reducible refine gate_dst (N := 5) rfl ?_); refine box_event ?hg (N := 5) ?hd (cs := #[.int .i64 0, .int .u64 0]) (t := 70) ?hr ?_; (case hd => rfl); (case hg => rfl); (case hr => first | (go_simp; done) | (go_simp; rfl)); intro gb435 hg w11 hbox hb; have n0_ := bb BK432 hb; have n1_ := bs HB hb; have n2_ := Aside0.mk (hbox); have n3_ := bz HB hg; have n4_ := bz HB hg; have n5_ := bl BK432 hg; have n6_ := bg BK432 hg; clear BK432; clear HB; have BK432 := n0_; have HB := n1_; have BK435 := n2_; have GW435 := n3_; have GE435 := n4_; have NB432_435 := n5_; have NB435_432 := n6_; clear n0_ n1_ n2_ n3_ n4_ n5_ n6_; clear hb hbox hg; have hnb12 := NB435_432.out; have hnc12 := NB432_435.out; (try clear hcz9_0 hcz9_1 hfz9_0 hfz9_1); obtain ⟨hcz13_0, hcz13_1⟩ := cc2 BK435; obtain ⟨hfz13_0, hfz13_1⟩ := cf2 BK435) | (go_at_call 34; (with_reducible refine (ring_mask.calls ji5 t436 _ A6.out).mono ?_); rintro e w' ⟨rfl, ⟨nd, rfl⟩⟩; (try first | exact ⟨rfl, _, World.drewN_drewN _ _ _⟩ | exact ⟨rfl, _, Eq.trans (World.drewN_drewN _ _ _) (congrArg (World.drewN _) (Nat.add_assoc _ _ _))⟩)) | (go_at_call 33; (with_reducible refine (bits_OnesCount64.calls (Go.bits .and .u64 t434 t436) t437 _ A7.out).mono ?_); rintro e w' ⟨rfl, ⟨nd, rfl⟩⟩; (try first | exact ⟨rfl, _, World.drewN_drewN _ _ _⟩ | exact ⟨rfl, _, Eq.trans (World.drewN_drewN _ _ _) (congrArg (World.drewN _) (Nat.add_assoc _ _ _))⟩)))
  repeat (go_quiet (first | ((with_reducible refine gate_dst (N := 2) rfl ?_); refine box_event ?hg (N := 2) ?hd (cs := #[.int .i64 a0_0, .int .u64 a0_1]) (t := 28) ?hr ?_; (case hd => rfl); (case hg => rfl); (case hr => first | (go_simp; done) | (go_simp; rfl)); intro gb432 hg w8 hbox hb; have n0_ := bs HB hb; have n1_ := Aside0.mk (hbox); have n2_ := bz HB hg; have n3_ := bz HB hg; clear HB; have HB := n0_; have BK432 := n1_; have GW432 := n2_; have GE432 := n3_; clear n0_ n1_ n2_ n3_; clear hb hbox hg; obtain ⟨hcz9_0, hcz9_1⟩ := cc2 BK432; obtain ⟨hfz9_0, hfz9_1⟩ := cf2 BK432) | (go_at_call 32; (with_reducible refine (ring_of.calls a0_0 a0_1 t433 t434 _ A3.out).mono ?_); rintro e w10 ⟨rfl, hb⟩; have n0_ := bb BK432 hb; have n1_ := bs HB hb; clear BK432; clear HB; have BK432 := n0_; have HB := n1_; clear n0_ n1_; (try clear hb); (try clear hb2); (try clear hk); (try clear hi)) | ((with_reducible refine gate_dst (N := 5) rfl ?_); refine box_event ?hg (N := 5) ?hd (cs := #[.int .i64 0, .int .u64 0]) (t := 70) ?hr ?_; (case hd => rfl); (case hg => rfl); (case hr => first | (go_simp; done) | (go_simp; rfl)); intro gb435 hg w11 hbox hb; have n0_ := bb BK432 hb; have n1_ := bs HB hb; have n2_ := Aside0.mk (hbox); have n3_ := bz HB hg; have n4_ := bz HB hg; have n5_ := bl BK432 hg; have n6_ := bg BK432 hg; clear BK432; clear HB; have BK432 := n0_; have HB := n1_; have BK435 := n2_; have GW435 := n3_; have GE435 := n4_; have NB432_435 := n5_; have NB435_432 := n6_; clear n0_ n1_ n2_ n3_ n4_ n5_ n6_; clear hb hbox hg; have hnb12 := NB435_432.out; have hnc12 := NB432_435.out; (try clear hcz9_0 hcz9_1 hfz9_0 hfz9_1); obtain ⟨hcz13_0, hcz13_1⟩ := cc2 BK435; obtain ⟨hfz13_0, hfz13_1⟩ := cf2 BK435) | (go_at_call 34; (with_reducible refine (ring_mask.calls ji5 t436 _ A6.out).mono ?_); rintro e w' ⟨rfl, ⟨nd, rfl⟩⟩; (try first | exact ⟨rfl, _, World.drewN_drewN _ _ _⟩ | exact ⟨rfl, _, Eq.trans (World.drewN_drewN _ _ _) (congrArg (World.drewN _) (Nat.add_assoc _ _ _))⟩)) | (go_at_call 33; (with_reducible refine (bits_OnesCount64.calls (Go.bits .and .u64 t434 t436) t437 _ A7.out).mono ?_); rintro e w' ⟨rfl, ⟨nd, rfl⟩⟩; (try first | exact ⟨rfl, _, World.drewN_drewN _ _ _⟩ | exact ⟨rfl, _, Eq.trans (World.drewN_drewN _ _ _) (congrArg (World.drewN _) (Nat.add_assoc _ _ _))⟩))); try go_wp2_with (first | ((with_reducible refine gate_dst (N := 2) rfl ?_); refine box_event ?hg (N := 2) ?hd (cs := #[.int .i64 a0_0, .int .u64 a0_1]) (t := 28) ?hr ?_; (case hd => rfl); (case hg => rfl); (case hr => first | (go_simp; done) | (go_simp; rfl)); intro gb432 hg w8 hbox hb; have n0_ := bs HB hb; have n1_ := Aside0.mk (hbox); have n2_ := bz HB hg; have n3_ := bz HB hg; clear HB; have HB := n0_; have BK432 := n1_; have GW432 := n2_; have GE432 := n3_; clear n0_ n1_ n2_ n3_; clear hb hbox hg; (try clear hcz9_0 hcz9_1 hfz9_0 hfz9_1); (try clear hcz13_0 hcz13_1 hfz13_0 hfz13_1); obtain ⟨hcz9_0, hcz9_1⟩ := cc2 BK432; obtain ⟨hfz9_0, hfz9_1⟩ := cf2 BK432) | (go_at_call 32; (with_reducible refine (ring_of.calls a0_0 a0_1 t433 t434 _ A3.out).mono ?_); rintro e w10 ⟨rfl, hb⟩; have n0_ := bb BK432 hb; have n1_ := bs HB hb; clear BK432; clear HB; have BK432 := n0_; have HB := n1_; clear n0_ n1_; (try clear hb); (try clear hb2); (try clear hk); (try clear hi)) | ((with_reducible refine gate_dst (N := 5) rfl ?_); refine box_event ?hg (N := 5) ?hd (cs := #[.int .i64 0, .int .u64 0]) (t := 70) ?hr ?_; (case hd => rfl); (case hg => rfl); (case hr => first | (go_simp; done) | (go_simp; rfl)); intro gb435 hg w11 hbox hb; have n0_ := bb BK432 hb; have n1_ := bs HB hb; have n2_ := Aside0.mk (hbox); have n3_ := bz HB hg; have n4_ := bz HB hg; have n5_ := bl BK432 hg; have n6_ := bg BK432 hg; clear BK432; clear HB; have BK432 := n0_; have HB := n1_; have BK435 := n2_; have GW435 := n3_; have GE435 := n4_; have NB432_435 := n5_; have NB435_432 := n6_; clear n0_ n1_ n2_ n3_ n4_ n5_ n6_; clear hb hbox hg; have hnb12 := NB435_432.out; have hnc12 := NB432_435.out; (try clear hcz9_0 hcz9_1 hfz9_0 hfz9_1 hcz9_0 hcz9_1 hfz9_0 hfz9_1); (try clear hcz13_0 hcz13_1 hfz13_0 hfz13_1); obtain ⟨hcz13_0, hcz13_1⟩ := cc2 BK435; obtain ⟨hfz13_0, hfz13_1⟩ := cf2 BK435) | (go_at_call 34; (with_reducible refine (ring_mask.calls ji5 t436 _ A6.out).mono ?_); rintro e w' ⟨rfl, ⟨nd, rfl⟩⟩; (try first | exact ⟨rfl, _, World.drewN_drewN _ _ _⟩ | exact ⟨rfl, _, Eq.trans (World.drewN_drewN _ _ _) (congrArg (World.drewN _) (Nat.add_assoc _ _ _))⟩)) | (go_at_call 33; (with_reducible refine (bits_OnesCount64.calls (Go.bits .and .u64 t434 t436) t437 _ A7.out).mono ?_); rintro e w' ⟨rfl, ⟨nd, rfl⟩⟩; (try first | exact ⟨rfl, _, World.drewN_drewN _ _ _⟩ | exact ⟨rfl, _, Eq.trans (World.drewN_drewN _ _ _) (congrArg (World.drewN _) (Nat.add_assoc _ _ _))⟩))))
  go_ret
  exact ⟨by first | rfl | (simp [errW_none, errW_some] <;> rfl) | (simp only [← hji4, ← hji5]; first | rfl | (simp [errW_none, errW_some] <;> rfl)) | (simp [*, errW_none, errW_some] <;> rfl) | (exfalso; contradiction), by repeat (first | (with_reducible first | exact HB.out | apply below_alloc | apply pw_below_drewN | apply below_drew1 | refine below_set ?_ GE432.out | refine below_set ?_ GE435.out) | exact HB.out)⟩

end Go.Proofs.Ytphonmldcbgklaa.P
