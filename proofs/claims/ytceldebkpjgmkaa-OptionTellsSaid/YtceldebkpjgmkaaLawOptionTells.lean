-- Written by a program of this session (hprint.py), out of the translation; functions that the print does not take are given by hand.
import Derived.Test.YtceldebkpjgmkaaRows
import Derived.Test.YtceldebkpjgmkaaPureOptionTells
import Derived.Test.YtceldebkpjgmkaaOpen
import Derived.WalkKit
import Derived.ProofKit
import Derived.OpenShut
import Derived.ShutString
import Derived.ChangeOld
import Derived.Below
import Derived.SizedLaws
namespace Go.Proofs.Ytceldebkpjgmkaa.optionTells
open Go.ChangeShapes Go.WideShapes Go.ChangeAt Go.RowKit Go.Proofs.YtceldebkpjgmkaaO Go.Proofs.Ytceldebkpjgmkaa.P Go.Proofs.YtceldebkpjgmkaaW.PrintWords
set_option linter.unusedVariables false
theorem own : ownKnob Try.prog.godebug = none := by kernel_rfl
theorem laidOut : laidOutB Try.prog = true := by kernel_rfl
theorem leaves23 : leavesOf Try.prog 5 23 = some [some .i64, some .i64, some .i64] := by kernel_rfl
theorem leaves28 : leavesOf Try.prog 5 28 = some [some .i64, some .i64, some .i64, some .i64, some .i64, some .i64] := by kernel_rfl
theorem leaves30 : leavesOf Try.prog 5 30 = some [none, some .i64, some .i64, some .i64, none, some .i64, some .i64, some .i64] := by kernel_rfl
theorem leaves33 : leavesOf Try.prog 5 33 = some [some .i64, some .u64] := by kernel_rfl
set_option maxRecDepth 100000 in
set_option maxHeartbeats 2000000 in
theorem lifted (os : Os) (started : os.Started) (H : Type) (enc : TypeId × Value → H) :
    ReturnsInHanded {} Try.checked os 5 .any (Rows.optionTellsSpec.pre6 enc Try.prog Try.f5 Rows.optionTellsRow.domain false) (Rows.optionTellsSpec.post enc Try.prog Try.f5 false true false false) := by
  refine returnsInHanded_of_change_sized (C := Try.checked) own started (by kernel_rfl) Try.func5
    (ChangeSpec.witness6 (enc := enc) (C := Try.checked) false ⟨#[], #[.slice none 0 0, .agg #[.int .i64 0, .int .i64 0, .int .i64 0], .agg #[.int .i64 0, .int .i64 0, .int .i64 0], .int .i64 0, .agg #[.int .i64 0, .int .i64 0, .int .i64 0, .int .i64 0, .int .i64 0, .int .i64 0], .agg #[.bool false, .int .i64 0, .int .i64 0, .int .i64 0, .bool false, .int .i64 0, .int .i64 0, .int .i64 0], .agg #[.int .i64 0, .int .u64 0]], []⟩ 8 (by kernel_rfl) (by kernel_rfl) (by kernel_rfl) (by kernel_rfl)) ?_
  intro W base args ds gs before hval0 hW hcnd hsz0 _
  have hsz : (DataW.weightsEach Try.prog (Try.f5.params.toList ++ Rows.optionTellsSpec.plain.varTypes Try.prog) (ds ++ gs)).all (· ≤ reachBytes) = true := hsz0
  have hval : ∀ (j : Nat) t v, Try.f5.params[j]? = some t → args[j]? = some v → Value.okWide Try.prog W .any base t v := hval0
  have hW' := hW
  obtain ⟨p, q, hA0, hV, rfl, hfz, hnd⟩ := hW
  have hA : DataW.TrodAll enc Try.prog W 0 (fun _ => true) true Try.f5.params.toList args.toList ds p := hA0
  rw [Try.params5] at hA hval hsz
  obtain ⟨v0, vs0, d0, ds0, p0, q0, hargs, rfl, rfl, h0, r0⟩ := trodAll_cons hA
  obtain ⟨v1, vs1, d1, ds1, p1, q1, rfl, rfl, rfl, h1, r1⟩ := trodAll_cons r0
  obtain ⟨v2, vs2, d2, ds2, p2, q2, rfl, rfl, rfl, h2, r2⟩ := trodAll_cons r1
  obtain ⟨v3, vs3, d3, ds3, p3, q3, rfl, rfl, rfl, h3, r3⟩ := trodAll_cons r2
  obtain ⟨v4, vs4, d4, ds4, p4, q4, rfl, rfl, rfl, h4, r4⟩ := trodAll_cons r3
  obtain ⟨v5, vs5, d5, ds5, p5, q5, rfl, rfl, rfl, h5, r5⟩ := trodAll_cons r4
  obtain ⟨v6, vs6, d6, ds6, p6, q6, rfl, rfl, rfl, h6, r6⟩ := trodAll_cons r5
  obtain ⟨rfl, rfl, rfl⟩ := trodAll_nil r6
  obtain rfl : args = #[v0, v1, v2, v3, v4, v5, v6] := by cases args; simp_all
  obtain ⟨rfl, rfl⟩ := trodVars_none hV
  obtain ⟨A0, len0, cap0, rfl⟩ := okWide_slice Try.underlying40 (hval 0 40 v0 rfl rfl)
  have k0 := h0
  have lt0 : ∀ x ∈ p0, x.block < W.heap.size := by obtain ⟨m, hm⟩ := k0; exact DataW.trod_lt m _ _ _ hm
  have y0 : len0 * 24 ≤ 140737488351232 := sized_list hsz (j := 0) (t := 40) rfl rfl Try.underlying40 (by kernel_rfl) h0
  obtain ⟨l0, e0, hr0, hc0, hm0, hg0⟩ := open_list (k23) (good := fun x => (Lit.int .i64 x.f0).wf = true ∧ (Lit.int .i64 x.f1).wf = true ∧ (Lit.int .i64 x.f2).wf = true) leaves23 Try.underlying40 (by kernel_rfl) (fun cs z0 => by
      obtain ⟨_, _, rfl, ⟨c0, rfl, w0⟩, z1⟩ := fits_cons z0
      obtain ⟨_, _, rfl, ⟨c1, rfl, w1⟩, z2⟩ := fits_cons z1
      obtain ⟨_, _, rfl, ⟨c2, rfl, w2⟩, z3⟩ := fits_cons z2
      obtain rfl := fits_nil z3
      exact ⟨⟨c0, c1, c2⟩, ⟨w0, w1, w2⟩, k23_mk W _⟩) h0
  subst e0
  obtain ⟨cs1, rfl, t1_0⟩ := open_flat leaves23 Try.underlying23 (hval 1 23 v1 rfl rfl) h1
  obtain ⟨_, _, rfl, ⟨a1_0, rfl, w1_0⟩, t1_1⟩ := fits_cons t1_0
  obtain ⟨_, _, rfl, ⟨a1_1, rfl, w1_1⟩, t1_2⟩ := fits_cons t1_1
  obtain ⟨_, _, rfl, ⟨a1_2, rfl, w1_2⟩, t1_3⟩ := fits_cons t1_2
  obtain rfl := fits_nil t1_3
  have k1 := h1
  have lt1 : ∀ x ∈ p1, x.block < W.heap.size := by obtain ⟨m, hm⟩ := k1; exact DataW.trod_lt m _ _ _ hm
  obtain ⟨cs2, rfl, t2_0⟩ := open_flat leaves23 Try.underlying23 (hval 2 23 v2 rfl rfl) h2
  obtain ⟨_, _, rfl, ⟨a2_0, rfl, w2_0⟩, t2_1⟩ := fits_cons t2_0
  obtain ⟨_, _, rfl, ⟨a2_1, rfl, w2_1⟩, t2_2⟩ := fits_cons t2_1
  obtain ⟨_, _, rfl, ⟨a2_2, rfl, w2_2⟩, t2_3⟩ := fits_cons t2_2
  obtain rfl := fits_nil t2_3
  have k2 := h2
  have lt2 : ∀ x ∈ p2, x.block < W.heap.size := by obtain ⟨m, hm⟩ := k2; exact DataW.trod_lt m _ _ _ hm
  obtain ⟨a3, rfl, rfl, rfl, w3⟩ := open_int Try.underlying3 (hval 3 3 v3 rfl rfl) h3
  obtain ⟨cs4, rfl, t4_0⟩ := open_flat leaves28 Try.underlying28 (hval 4 28 v4 rfl rfl) h4
  obtain ⟨_, _, rfl, ⟨a4_0, rfl, w4_0⟩, t4_1⟩ := fits_cons t4_0
  obtain ⟨_, _, rfl, ⟨a4_1, rfl, w4_1⟩, t4_2⟩ := fits_cons t4_1
  obtain ⟨_, _, rfl, ⟨a4_2, rfl, w4_2⟩, t4_3⟩ := fits_cons t4_2
  obtain ⟨_, _, rfl, ⟨a4_3, rfl, w4_3⟩, t4_4⟩ := fits_cons t4_3
  obtain ⟨_, _, rfl, ⟨a4_4, rfl, w4_4⟩, t4_5⟩ := fits_cons t4_4
  obtain ⟨_, _, rfl, ⟨a4_5, rfl, w4_5⟩, t4_6⟩ := fits_cons t4_5
  obtain rfl := fits_nil t4_6
  have k4 := h4
  have lt4 : ∀ x ∈ p4, x.block < W.heap.size := by obtain ⟨m, hm⟩ := k4; exact DataW.trod_lt m _ _ _ hm
  obtain ⟨cs5, rfl, t5_0⟩ := open_flat leaves30 Try.underlying30 (hval 5 30 v5 rfl rfl) h5
  obtain ⟨_, _, rfl, ⟨a5_0, rfl⟩, t5_1⟩ := fits_cons t5_0
  obtain ⟨_, _, rfl, ⟨a5_1, rfl, w5_1⟩, t5_2⟩ := fits_cons t5_1
  obtain ⟨_, _, rfl, ⟨a5_2, rfl, w5_2⟩, t5_3⟩ := fits_cons t5_2
  obtain ⟨_, _, rfl, ⟨a5_3, rfl, w5_3⟩, t5_4⟩ := fits_cons t5_3
  obtain ⟨_, _, rfl, ⟨a5_4, rfl⟩, t5_5⟩ := fits_cons t5_4
  obtain ⟨_, _, rfl, ⟨a5_5, rfl, w5_5⟩, t5_6⟩ := fits_cons t5_5
  obtain ⟨_, _, rfl, ⟨a5_6, rfl, w5_6⟩, t5_7⟩ := fits_cons t5_6
  obtain ⟨_, _, rfl, ⟨a5_7, rfl, w5_7⟩, t5_8⟩ := fits_cons t5_7
  obtain rfl := fits_nil t5_8
  have k5 := h5
  have lt5 : ∀ x ∈ p5, x.block < W.heap.size := by obtain ⟨m, hm⟩ := k5; exact DataW.trod_lt m _ _ _ hm
  obtain ⟨cs6, rfl, t6_0⟩ := open_flat leaves33 Try.underlying33 (hval 6 33 v6 rfl rfl) h6
  obtain ⟨_, _, rfl, ⟨a6_0, rfl, w6_0⟩, t6_1⟩ := fits_cons t6_0
  obtain ⟨_, _, rfl, ⟨a6_1, rfl, w6_1⟩, t6_2⟩ := fits_cons t6_1
  obtain rfl := fits_nil t6_2
  have k6 := h6
  have lt6 : ∀ x ∈ p6, x.block < W.heap.size := by obtain ⟨m, hm⟩ := k6; exact DataW.trod_lt m _ _ _ hm
  clear hA0 hval0 hsz0 hsz
  obtain ⟨k, hk⟩ := Pure.OptionTells l0 a1_0 a1_1 a1_2 a2_0 a2_1 a2_2 a3 a4_0 a4_1 a4_2 a4_3 a4_4 a4_5 a5_0 a5_1 a5_2 a5_3 a5_4 a5_5 a5_6 a5_7 a6_0 a6_1 hm0 y0 hg0 w1_0 w1_1 w1_2 w2_0 w2_1 w2_2 w3 w4_0 w4_1 w4_2 w4_3 w4_4 w4_5 w5_1 w5_2 w5_3 w5_5 w5_6 w5_7 w6_0 w6_1
  refine (fuseelaw14_OptionTells.calls k _ _ l0 a1_0 a1_1 a1_2 a2_0 a2_1 a2_2 a3 a4_0 a4_1 a4_2 a4_3 a4_4 a4_5 a5_0 a5_1 a5_2 a5_3 a5_4 a5_5 a5_6 a5_7 a6_0 a6_1 true W hr0 hc0 hk).mono fun e W' ⟨he, bel⟩ => ?_
  subst he
  exact ⟨_, rfl, _, _, _, [], _, [], hW', trodAll_mk1 (shut_bool Try.underlying4 _), (trodAll_cons_mk (Below.trod laidOut (by kernel_rfl) (of_decide_eq_true (by kernel_rfl)) k0 bel lt0) (trodAll_cons_mk (Below.trod laidOut (by kernel_rfl) (of_decide_eq_true (by kernel_rfl)) k1 bel lt1) (trodAll_cons_mk (Below.trod laidOut (by kernel_rfl) (of_decide_eq_true (by kernel_rfl)) k2 bel lt2) (trodAll_cons_mk (shut_int Try.underlying3 w3) (trodAll_cons_mk (Below.trod laidOut (by kernel_rfl) (of_decide_eq_true (by kernel_rfl)) k4 bel lt4) (trodAll_cons_mk (Below.trod laidOut (by kernel_rfl) (of_decide_eq_true (by kernel_rfl)) k5 bel lt5) (trodAll_cons_mk (Below.trod laidOut (by kernel_rfl) (of_decide_eq_true (by kernel_rfl)) k6 bel lt6) trodAll_mk0))))))), rfl, bel.frame _, fun h => by cases h⟩
theorem over : Rows.optionTellsRow.holds Try.pinned (OpenSpec.ofChange Rows.optionTellsSpec) :=
  OpenClaim.holds_of_wide 5 Try.f5 rfl rfl rfl rfl rfl rfl rfl ⟨rfl, rfl, rfl, rfl, rfl⟩ rfl rfl rfl rfl rfl (by kernel_rfl) Try.func5 (by kernel_rfl)
    (of_decide_eq_true (by kernel_rfl)) (by unfold Func.isWrapper; first | (rw [if_pos (by decide +kernel)]; kernel_rfl) | (rw [if_neg (by decide +kernel)]; exact ⟨rfl, rfl⟩))
    (fun os started H enc _ => lifted os started H enc)
theorem proved : Rows.OptionTellsSaid := over
#print axioms proved
end Go.Proofs.Ytceldebkpjgmkaa.optionTells
namespace Go.Proofs.Ytceldebkpjgmkaa
/-- The row, under a short name, for the claim. -/
theorem optionTells_holds : Rows.OptionTellsSaid := optionTells.proved
end Go.Proofs.Ytceldebkpjgmkaa
