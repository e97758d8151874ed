-- Written by a program of this session (hprint.py), out of the translation; functions that the print does not take are given by hand.
import Derived.Test.YtphonmldcbgklaaRows
import Derived.Test.YtphonmldcbgklaaPureTaskGood
import Derived.Test.YtphonmldcbgklaaOpen
import Derived.WalkKit
import Derived.ProofKit
import Derived.OpenShut
import Derived.ShutString
import Derived.ChangeOld
import Derived.Below
import Derived.SizedLaws
namespace Go.Proofs.Ytphonmldcbgklaa.taskGood
open Go.ChangeShapes Go.WideShapes Go.ChangeAt Go.RowKit Go.Proofs.YtphonmldcbgklaaO Go.Proofs.Ytphonmldcbgklaa.P Go.Proofs.YtphonmldcbgklaaW.PrintWords
set_option linter.unusedVariables false
theorem own : ownKnob Try.prog.godebug = none := by kernel_rfl
theorem laidOut : laidOutB Try.prog = true := by kernel_rfl
theorem leaves30 : leavesOf Try.prog 5 30 = some [some .i64, some .i64, some .i64, some .i64, some .i64, some .i64, some .i64, some .i64, some .i64, some .i64, some .i64, none, some .i64, some .i64, some .i64, none, some .i64, some .i64, some .i64, some .i64, some .u64, none] := by kernel_rfl
set_option maxRecDepth 100000 in
set_option maxHeartbeats 2000000 in
theorem lifted (os : Os) (started : os.Started) (H : Type) (enc : TypeId × Value → H) :
    ReturnsInHanded {} Try.checked os 6 .any (Rows.taskGoodSpec.pre6 enc Try.prog Try.f6 Rows.taskGoodRow.domain false) (Rows.taskGoodSpec.post enc Try.prog Try.f6 false true false false) := by
  refine returnsInHanded_of_change_sized (C := Try.checked) own started (by kernel_rfl) Try.func6
    (ChangeSpec.witness6 (enc := enc) (C := Try.checked) false ⟨#[], #[.agg #[.int .i64 0, .int .i64 0, .int .i64 0, .int .i64 0, .int .i64 0, .int .i64 0, .int .i64 0, .int .i64 0, .int .i64 0, .int .i64 0, .int .i64 0, .bool false, .int .i64 0, .int .i64 0, .int .i64 0, .bool false, .int .i64 0, .int .i64 0, .int .i64 0, .int .i64 0, .int .u64 0, .bool false], .int .i64 0], []⟩ 8 (by kernel_rfl) (by kernel_rfl) (by kernel_rfl) (by kernel_rfl)) ?_
  intro W base args ds gs before hval0 hW hcnd hsz0 _
  have hsz : (DataW.weightsEach Try.prog (Try.f6.params.toList ++ Rows.taskGoodSpec.plain.varTypes Try.prog) (ds ++ gs)).all (· ≤ reachBytes) = true := hsz0
  have hval : ∀ (j : Nat) t v, Try.f6.params[j]? = some t → args[j]? = some v → Value.okWide Try.prog W .any base t v := hval0
  have hW' := hW
  obtain ⟨p, q, hA0, hV, rfl, hfz, hnd⟩ := hW
  have hA : DataW.TrodAll enc Try.prog W 0 (fun _ => true) true Try.f6.params.toList args.toList ds p := hA0
  rw [Try.params6] at hA hval hsz
  obtain ⟨v0, vs0, d0, ds0, p0, q0, hargs, rfl, rfl, h0, r0⟩ := trodAll_cons hA
  obtain ⟨v1, vs1, d1, ds1, p1, q1, rfl, rfl, rfl, h1, r1⟩ := trodAll_cons r0
  obtain ⟨rfl, rfl, rfl⟩ := trodAll_nil r1
  obtain rfl : args = #[v0, v1] := by cases args; simp_all
  obtain ⟨rfl, rfl⟩ := trodVars_none hV
  obtain ⟨cs0, rfl, t0_0⟩ := open_flat leaves30 Try.underlying30 (hval 0 30 v0 rfl rfl) h0
  obtain ⟨_, _, rfl, ⟨a0_0, rfl, w0_0⟩, t0_1⟩ := fits_cons t0_0
  obtain ⟨_, _, rfl, ⟨a0_1, rfl, w0_1⟩, t0_2⟩ := fits_cons t0_1
  obtain ⟨_, _, rfl, ⟨a0_2, rfl, w0_2⟩, t0_3⟩ := fits_cons t0_2
  obtain ⟨_, _, rfl, ⟨a0_3, rfl, w0_3⟩, t0_4⟩ := fits_cons t0_3
  obtain ⟨_, _, rfl, ⟨a0_4, rfl, w0_4⟩, t0_5⟩ := fits_cons t0_4
  obtain ⟨_, _, rfl, ⟨a0_5, rfl, w0_5⟩, t0_6⟩ := fits_cons t0_5
  obtain ⟨_, _, rfl, ⟨a0_6, rfl, w0_6⟩, t0_7⟩ := fits_cons t0_6
  obtain ⟨_, _, rfl, ⟨a0_7, rfl, w0_7⟩, t0_8⟩ := fits_cons t0_7
  obtain ⟨_, _, rfl, ⟨a0_8, rfl, w0_8⟩, t0_9⟩ := fits_cons t0_8
  obtain ⟨_, _, rfl, ⟨a0_9, rfl, w0_9⟩, t0_10⟩ := fits_cons t0_9
  obtain ⟨_, _, rfl, ⟨a0_10, rfl, w0_10⟩, t0_11⟩ := fits_cons t0_10
  obtain ⟨_, _, rfl, ⟨a0_11, rfl⟩, t0_12⟩ := fits_cons t0_11
  obtain ⟨_, _, rfl, ⟨a0_12, rfl, w0_12⟩, t0_13⟩ := fits_cons t0_12
  obtain ⟨_, _, rfl, ⟨a0_13, rfl, w0_13⟩, t0_14⟩ := fits_cons t0_13
  obtain ⟨_, _, rfl, ⟨a0_14, rfl, w0_14⟩, t0_15⟩ := fits_cons t0_14
  obtain ⟨_, _, rfl, ⟨a0_15, rfl⟩, t0_16⟩ := fits_cons t0_15
  obtain ⟨_, _, rfl, ⟨a0_16, rfl, w0_16⟩, t0_17⟩ := fits_cons t0_16
  obtain ⟨_, _, rfl, ⟨a0_17, rfl, w0_17⟩, t0_18⟩ := fits_cons t0_17
  obtain ⟨_, _, rfl, ⟨a0_18, rfl, w0_18⟩, t0_19⟩ := fits_cons t0_18
  obtain ⟨_, _, rfl, ⟨a0_19, rfl, w0_19⟩, t0_20⟩ := fits_cons t0_19
  obtain ⟨_, _, rfl, ⟨a0_20, rfl, w0_20⟩, t0_21⟩ := fits_cons t0_20
  obtain ⟨_, _, rfl, ⟨a0_21, rfl⟩, t0_22⟩ := fits_cons t0_21
  obtain rfl := fits_nil t0_22
  have k0 := h0
  have lt0 : ∀ x ∈ p0, x.block < W.heap.size := by obtain ⟨m, hm⟩ := k0; exact DataW.trod_lt m _ _ _ hm
  obtain ⟨a1, rfl, rfl, rfl, w1⟩ := open_int Try.underlying3 (hval 1 3 v1 rfl rfl) h1
  clear hA0 hval0 hsz0 hsz
  obtain ⟨k, hk⟩ := Pure.TaskGood a0_0 a0_1 a0_2 a0_3 a0_4 a0_5 a0_6 a0_7 a0_8 a0_9 a0_10 a0_11 a0_12 a0_13 a0_14 a0_15 a0_16 a0_17 a0_18 a0_19 a0_20 a0_21 a1 w0_0 w0_1 w0_2 w0_3 w0_4 w0_5 w0_6 w0_7 w0_8 w0_9 w0_10 w0_12 w0_13 w0_14 w0_16 w0_17 w0_18 w0_19 w0_20 w1
  refine (fuseelaw15_TaskGood.calls k a0_0 a0_1 a0_2 a0_3 a0_4 a0_5 a0_6 a0_7 a0_8 a0_9 a0_10 a0_11 a0_12 a0_13 a0_14 a0_15 a0_16 a0_17 a0_18 a0_19 a0_20 a0_21 a1 true W  hk).mono fun e W' ⟨he, bel⟩ => ?_
  subst he
  exact ⟨_, rfl, _, _, _, [], _, [], hW', trodAll_mk1 (shut_bool Try.underlying4 _), (trodAll_cons_mk (Below.trod laidOut (by kernel_rfl) (of_decide_eq_true (by kernel_rfl)) k0 bel lt0) (trodAll_cons_mk (shut_int Try.underlying3 w1) trodAll_mk0)), rfl, bel.frame _, fun h => by cases h⟩
theorem over : Rows.taskGoodRow.holds Try.pinned (OpenSpec.ofChange Rows.taskGoodSpec) :=
  OpenClaim.holds_of_wide 6 Try.f6 rfl rfl rfl rfl rfl rfl rfl ⟨rfl, rfl, rfl, rfl, rfl⟩ rfl rfl rfl rfl rfl (by kernel_rfl) Try.func6 (by kernel_rfl)
    (of_decide_eq_true (by kernel_rfl)) (by unfold Func.isWrapper; first | (rw [if_pos (by decide +kernel)]; kernel_rfl) | (rw [if_neg (by decide +kernel)]; exact ⟨rfl, rfl⟩))
    (fun os started H enc _ => lifted os started H enc)
theorem proved : Rows.TaskGoodSaid := over
#print axioms proved
end Go.Proofs.Ytphonmldcbgklaa.taskGood
namespace Go.Proofs.Ytphonmldcbgklaa
/-- The row, under a short name, for the claim. -/
theorem taskGood_holds : Rows.TaskGoodSaid := taskGood.proved
end Go.Proofs.Ytphonmldcbgklaa
