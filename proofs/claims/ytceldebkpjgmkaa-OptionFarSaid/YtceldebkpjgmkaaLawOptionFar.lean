-- Written by a program of this session (hprint.py), out of the translation; functions that the print does not take are given by hand.
import Derived.Test.YtceldebkpjgmkaaRows
import Derived.Test.YtceldebkpjgmkaaPureOptionFar
import Derived.Test.YtceldebkpjgmkaaOpen
import Derived.WalkKit
import Derived.ProofKit
import Derived.OpenShut
import Derived.ShutString
import Derived.ChangeOld
import Derived.Below
import Derived.SizedLaws
namespace Go.Proofs.Ytceldebkpjgmkaa.optionFar
open Go.ChangeShapes Go.WideShapes Go.ChangeAt Go.RowKit Go.Proofs.YtceldebkpjgmkaaO Go.Proofs.Ytceldebkpjgmkaa.P Go.Proofs.YtceldebkpjgmkaaW.PrintWords
set_option linter.unusedVariables false
theorem own : ownKnob Try.prog.godebug = none := by kernel_rfl
theorem laidOut : laidOutB Try.prog = true := by kernel_rfl
theorem leaves28 : leavesOf Try.prog 5 28 = some [some .i64, some .i64, some .i64, some .i64, some .i64, some .i64] := by kernel_rfl
theorem leaves30 : leavesOf Try.prog 5 30 = some [none, some .i64, some .i64, some .i64, none, some .i64, some .i64, some .i64] := by kernel_rfl
theorem leaves33 : leavesOf Try.prog 5 33 = some [some .i64, some .u64] := by kernel_rfl
set_option maxRecDepth 100000 in
set_option maxHeartbeats 2000000 in
theorem lifted (os : Os) (started : os.Started) (H : Type) (enc : TypeId × Value → H) :
    ReturnsInHanded {} Try.checked os 4 .any (Rows.optionFarSpec.pre6 enc Try.prog Try.f4 Rows.optionFarRow.domain false) (Rows.optionFarSpec.post enc Try.prog Try.f4 false true false false) := by
  refine returnsInHanded_of_change_sized (C := Try.checked) own started (by kernel_rfl) Try.func4
    (ChangeSpec.witness6 (enc := enc) (C := Try.checked) false ⟨#[], #[.int .i64 0, .agg #[.int .i64 0, .int .i64 0, .int .i64 0, .int .i64 0, .int .i64 0, .int .i64 0], .agg #[.bool false, .int .i64 0, .int .i64 0, .int .i64 0, .bool false, .int .i64 0, .int .i64 0, .int .i64 0], .agg #[.int .i64 0, .int .u64 0]], []⟩ 8 (by kernel_rfl) (by kernel_rfl) (by kernel_rfl) (by kernel_rfl)) ?_
  intro W base args ds gs before hval0 hW hcnd hsz0 _
  have hsz : (DataW.weightsEach Try.prog (Try.f4.params.toList ++ Rows.optionFarSpec.plain.varTypes Try.prog) (ds ++ gs)).all (· ≤ reachBytes) = true := hsz0
  have hval : ∀ (j : Nat) t v, Try.f4.params[j]? = some t → args[j]? = some v → Value.okWide Try.prog W .any base t v := hval0
  have hW' := hW
  obtain ⟨p, q, hA0, hV, rfl, hfz, hnd⟩ := hW
  have hA : DataW.TrodAll enc Try.prog W 0 (fun _ => true) true Try.f4.params.toList args.toList ds p := hA0
  rw [Try.params4] at hA hval hsz
  obtain ⟨v0, vs0, d0, ds0, p0, q0, hargs, rfl, rfl, h0, r0⟩ := trodAll_cons hA
  obtain ⟨v1, vs1, d1, ds1, p1, q1, rfl, rfl, rfl, h1, r1⟩ := trodAll_cons r0
  obtain ⟨v2, vs2, d2, ds2, p2, q2, rfl, rfl, rfl, h2, r2⟩ := trodAll_cons r1
  obtain ⟨v3, vs3, d3, ds3, p3, q3, rfl, rfl, rfl, h3, r3⟩ := trodAll_cons r2
  obtain ⟨rfl, rfl, rfl⟩ := trodAll_nil r3
  obtain rfl : args = #[v0, v1, v2, v3] := by cases args; simp_all
  obtain ⟨rfl, rfl⟩ := trodVars_none hV
  obtain ⟨a0, rfl, rfl, rfl, w0⟩ := open_int Try.underlying3 (hval 0 3 v0 rfl rfl) h0
  obtain ⟨cs1, rfl, t1_0⟩ := open_flat leaves28 Try.underlying28 (hval 1 28 v1 rfl rfl) h1
  obtain ⟨_, _, rfl, ⟨a1_0, rfl, w1_0⟩, t1_1⟩ := fits_cons t1_0
  obtain ⟨_, _, rfl, ⟨a1_1, rfl, w1_1⟩, t1_2⟩ := fits_cons t1_1
  obtain ⟨_, _, rfl, ⟨a1_2, rfl, w1_2⟩, t1_3⟩ := fits_cons t1_2
  obtain ⟨_, _, rfl, ⟨a1_3, rfl, w1_3⟩, t1_4⟩ := fits_cons t1_3
  obtain ⟨_, _, rfl, ⟨a1_4, rfl, w1_4⟩, t1_5⟩ := fits_cons t1_4
  obtain ⟨_, _, rfl, ⟨a1_5, rfl, w1_5⟩, t1_6⟩ := fits_cons t1_5
  obtain rfl := fits_nil t1_6
  have k1 := h1
  have lt1 : ∀ x ∈ p1, x.block < W.heap.size := by obtain ⟨m, hm⟩ := k1; exact DataW.trod_lt m _ _ _ hm
  obtain ⟨cs2, rfl, t2_0⟩ := open_flat leaves30 Try.underlying30 (hval 2 30 v2 rfl rfl) h2
  obtain ⟨_, _, rfl, ⟨a2_0, rfl⟩, t2_1⟩ := fits_cons t2_0
  obtain ⟨_, _, rfl, ⟨a2_1, rfl, w2_1⟩, t2_2⟩ := fits_cons t2_1
  obtain ⟨_, _, rfl, ⟨a2_2, rfl, w2_2⟩, t2_3⟩ := fits_cons t2_2
  obtain ⟨_, _, rfl, ⟨a2_3, rfl, w2_3⟩, t2_4⟩ := fits_cons t2_3
  obtain ⟨_, _, rfl, ⟨a2_4, rfl⟩, t2_5⟩ := fits_cons t2_4
  obtain ⟨_, _, rfl, ⟨a2_5, rfl, w2_5⟩, t2_6⟩ := fits_cons t2_5
  obtain ⟨_, _, rfl, ⟨a2_6, rfl, w2_6⟩, t2_7⟩ := fits_cons t2_6
  obtain ⟨_, _, rfl, ⟨a2_7, rfl, w2_7⟩, t2_8⟩ := fits_cons t2_7
  obtain rfl := fits_nil t2_8
  have k2 := h2
  have lt2 : ∀ x ∈ p2, x.block < W.heap.size := by obtain ⟨m, hm⟩ := k2; exact DataW.trod_lt m _ _ _ hm
  obtain ⟨cs3, rfl, t3_0⟩ := open_flat leaves33 Try.underlying33 (hval 3 33 v3 rfl rfl) h3
  obtain ⟨_, _, rfl, ⟨a3_0, rfl, w3_0⟩, t3_1⟩ := fits_cons t3_0
  obtain ⟨_, _, rfl, ⟨a3_1, rfl, w3_1⟩, t3_2⟩ := fits_cons t3_1
  obtain rfl := fits_nil t3_2
  have k3 := h3
  have lt3 : ∀ x ∈ p3, x.block < W.heap.size := by obtain ⟨m, hm⟩ := k3; exact DataW.trod_lt m _ _ _ hm
  clear hA0 hval0 hsz0 hsz
  obtain ⟨k, hk⟩ := Pure.OptionFar a0 a1_0 a1_1 a1_2 a1_3 a1_4 a1_5 a2_0 a2_1 a2_2 a2_3 a2_4 a2_5 a2_6 a2_7 a3_0 a3_1 w0 w1_0 w1_1 w1_2 w1_3 w1_4 w1_5 w2_1 w2_2 w2_3 w2_5 w2_6 w2_7 w3_0 w3_1
  refine (fuseelaw14_OptionFar.calls k a0 a1_0 a1_1 a1_2 a1_3 a1_4 a1_5 a2_0 a2_1 a2_2 a2_3 a2_4 a2_5 a2_6 a2_7 a3_0 a3_1 true W  hk).mono fun e W' ⟨he, bel⟩ => ?_
  subst he
  exact ⟨_, rfl, _, _, _, [], _, [], hW', trodAll_mk1 (shut_bool Try.underlying4 _), (trodAll_cons_mk (shut_int Try.underlying3 w0) (trodAll_cons_mk (Below.trod laidOut (by kernel_rfl) (of_decide_eq_true (by kernel_rfl)) k1 bel lt1) (trodAll_cons_mk (Below.trod laidOut (by kernel_rfl) (of_decide_eq_true (by kernel_rfl)) k2 bel lt2) (trodAll_cons_mk (Below.trod laidOut (by kernel_rfl) (of_decide_eq_true (by kernel_rfl)) k3 bel lt3) trodAll_mk0)))), rfl, bel.frame _, fun h => by cases h⟩
theorem over : Rows.optionFarRow.holds Try.pinned (OpenSpec.ofChange Rows.optionFarSpec) :=
  OpenClaim.holds_of_wide 4 Try.f4 rfl rfl rfl rfl rfl rfl rfl ⟨rfl, rfl, rfl, rfl, rfl⟩ rfl rfl rfl rfl rfl (by kernel_rfl) Try.func4 (by kernel_rfl)
    (of_decide_eq_true (by kernel_rfl)) (by unfold Func.isWrapper; first | (rw [if_pos (by decide +kernel)]; kernel_rfl) | (rw [if_neg (by decide +kernel)]; exact ⟨rfl, rfl⟩))
    (fun os started H enc _ => lifted os started H enc)
theorem proved : Rows.OptionFarSaid := over
#print axioms proved
end Go.Proofs.Ytceldebkpjgmkaa.optionFar
namespace Go.Proofs.Ytceldebkpjgmkaa
/-- The row, under a short name, for the claim. -/
theorem optionFar_holds : Rows.OptionFarSaid := optionFar.proved
end Go.Proofs.Ytceldebkpjgmkaa
