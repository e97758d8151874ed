-- Written by a program of this session (hprint.py), out of the translation; functions that the print does not take are given by hand.
import Derived.Test.YtojjffafofjfiaaRows
import Derived.Test.YtojjffafofjfiaaPureJobLong
import Derived.Test.YtojjffafofjfiaaOpen
import Derived.WalkKit
import Derived.ProofKit
import Derived.OpenShut
import Derived.ShutString
import Derived.ChangeOld
import Derived.Below
import Derived.SizedLaws
namespace Go.Proofs.Ytojjffafofjfiaa.jobLong
open Go.ChangeShapes Go.WideShapes Go.ChangeAt Go.RowKit Go.Proofs.YtojjffafofjfiaaO Go.Proofs.Ytojjffafofjfiaa.P Go.Proofs.YtojjffafofjfiaaW.PrintWords
set_option linter.unusedVariables false
theorem own : ownKnob Try.prog.godebug = none := by kernel_rfl
theorem laidOut : laidOutB Try.prog = true := by kernel_rfl
theorem leaves23 : leavesOf Try.prog 5 23 = some [some .i64, some .i64, some .i64, some .i64, some .i64, some .i64] := by kernel_rfl
theorem leaves25 : leavesOf Try.prog 5 25 = some [none, some .i64, some .i64, some .i64, none, some .i64, some .i64, some .i64] := by kernel_rfl
set_option maxRecDepth 100000 in
set_option maxHeartbeats 2000000 in
theorem lifted (os : Os) (started : os.Started) (H : Type) (enc : TypeId × Value → H) :
    ReturnsInHanded {} Try.checked os 5 .any (Rows.jobLongSpec.pre6 enc Try.prog Try.f5 Rows.jobLongRow.domain false) (Rows.jobLongSpec.post enc Try.prog Try.f5 false true false false) := by
  refine returnsInHanded_of_change_sized (C := Try.checked) own started (by kernel_rfl) Try.func5
    (ChangeSpec.witness6 (enc := enc) (C := Try.checked) false ⟨#[], #[.agg #[.int .i64 0, .int .i64 0, .int .i64 0, .int .i64 0, .int .i64 0, .int .i64 0], .agg #[.bool false, .int .i64 0, .int .i64 0, .int .i64 0, .bool false, .int .i64 0, .int .i64 0, .int .i64 0], .int .i64 0], []⟩ 8 (by kernel_rfl) (by kernel_rfl) (by kernel_rfl) (by kernel_rfl)) ?_
  intro W base args ds gs before hval0 hW hcnd hsz0 _
  have hsz : (DataW.weightsEach Try.prog (Try.f5.params.toList ++ Rows.jobLongSpec.plain.varTypes Try.prog) (ds ++ gs)).all (· ≤ reachBytes) = true := hsz0
  have hval : ∀ (j : Nat) t v, Try.f5.params[j]? = some t → args[j]? = some v → Value.okWide Try.prog W .any base t v := hval0
  have hW' := hW
  obtain ⟨p, q, hA0, hV, rfl, hfz, hnd⟩ := hW
  have hA : DataW.TrodAll enc Try.prog W 0 (fun _ => true) true Try.f5.params.toList args.toList ds p := hA0
  rw [Try.params5] at hA hval hsz
  obtain ⟨v0, vs0, d0, ds0, p0, q0, hargs, rfl, rfl, h0, r0⟩ := trodAll_cons hA
  obtain ⟨v1, vs1, d1, ds1, p1, q1, rfl, rfl, rfl, h1, r1⟩ := trodAll_cons r0
  obtain ⟨v2, vs2, d2, ds2, p2, q2, rfl, rfl, rfl, h2, r2⟩ := trodAll_cons r1
  obtain ⟨rfl, rfl, rfl⟩ := trodAll_nil r2
  obtain rfl : args = #[v0, v1, v2] := by cases args; simp_all
  obtain ⟨rfl, rfl⟩ := trodVars_none hV
  obtain ⟨cs0, rfl, t0_0⟩ := open_flat leaves23 Try.underlying23 (hval 0 23 v0 rfl rfl) h0
  obtain ⟨_, _, rfl, ⟨a0_0, rfl, w0_0⟩, t0_1⟩ := fits_cons t0_0
  obtain ⟨_, _, rfl, ⟨a0_1, rfl, w0_1⟩, t0_2⟩ := fits_cons t0_1
  obtain ⟨_, _, rfl, ⟨a0_2, rfl, w0_2⟩, t0_3⟩ := fits_cons t0_2
  obtain ⟨_, _, rfl, ⟨a0_3, rfl, w0_3⟩, t0_4⟩ := fits_cons t0_3
  obtain ⟨_, _, rfl, ⟨a0_4, rfl, w0_4⟩, t0_5⟩ := fits_cons t0_4
  obtain ⟨_, _, rfl, ⟨a0_5, rfl, w0_5⟩, t0_6⟩ := fits_cons t0_5
  obtain rfl := fits_nil t0_6
  have k0 := h0
  have lt0 : ∀ x ∈ p0, x.block < W.heap.size := by obtain ⟨m, hm⟩ := k0; exact DataW.trod_lt m _ _ _ hm
  obtain ⟨cs1, rfl, t1_0⟩ := open_flat leaves25 Try.underlying25 (hval 1 25 v1 rfl rfl) h1
  obtain ⟨_, _, rfl, ⟨a1_0, rfl⟩, t1_1⟩ := fits_cons t1_0
  obtain ⟨_, _, rfl, ⟨a1_1, rfl, w1_1⟩, t1_2⟩ := fits_cons t1_1
  obtain ⟨_, _, rfl, ⟨a1_2, rfl, w1_2⟩, t1_3⟩ := fits_cons t1_2
  obtain ⟨_, _, rfl, ⟨a1_3, rfl, w1_3⟩, t1_4⟩ := fits_cons t1_3
  obtain ⟨_, _, rfl, ⟨a1_4, rfl⟩, t1_5⟩ := fits_cons t1_4
  obtain ⟨_, _, rfl, ⟨a1_5, rfl, w1_5⟩, t1_6⟩ := fits_cons t1_5
  obtain ⟨_, _, rfl, ⟨a1_6, rfl, w1_6⟩, t1_7⟩ := fits_cons t1_6
  obtain ⟨_, _, rfl, ⟨a1_7, rfl, w1_7⟩, t1_8⟩ := fits_cons t1_7
  obtain rfl := fits_nil t1_8
  have k1 := h1
  have lt1 : ∀ x ∈ p1, x.block < W.heap.size := by obtain ⟨m, hm⟩ := k1; exact DataW.trod_lt m _ _ _ hm
  obtain ⟨a2, rfl, rfl, rfl, w2⟩ := open_int Try.underlying3 (hval 2 3 v2 rfl rfl) h2
  clear hA0 hval0 hsz0 hsz
  have hk := Pure.JobLong a0_0 a0_1 a0_2 a0_3 a0_4 a0_5 a1_0 a1_1 a1_2 a1_3 a1_4 a1_5 a1_6 a1_7 a2 w0_0 w0_1 w0_2 w0_3 w0_4 w0_5 w1_1 w1_2 w1_3 w1_5 w1_6 w1_7 w2
  refine (fuseelaw11_JobLong.calls a0_0 a0_1 a0_2 a0_3 a0_4 a0_5 a1_0 a1_1 a1_2 a1_3 a1_4 a1_5 a1_6 a1_7 a2 true W  hk).mono fun e W' ⟨he, bel⟩ => ?_
  subst he
  exact ⟨_, rfl, _, _, _, [], _, [], hW', trodAll_mk1 (shut_bool Try.underlying4 _), (trodAll_cons_mk (Below.trod laidOut (by kernel_rfl) (of_decide_eq_true (by kernel_rfl)) k0 bel lt0) (trodAll_cons_mk (Below.trod laidOut (by kernel_rfl) (of_decide_eq_true (by kernel_rfl)) k1 bel lt1) (trodAll_cons_mk (shut_int Try.underlying3 w2) trodAll_mk0))), rfl, bel.frame _, fun h => by cases h⟩
theorem over : Rows.jobLongRow.holds Try.pinned (OpenSpec.ofChange Rows.jobLongSpec) :=
  OpenClaim.holds_of_wide 5 Try.f5 rfl rfl rfl rfl rfl rfl rfl ⟨rfl, rfl, rfl, rfl, rfl⟩ rfl rfl rfl rfl rfl (by kernel_rfl) Try.func5 (by kernel_rfl)
    (of_decide_eq_true (by kernel_rfl)) (by unfold Func.isWrapper; first | (rw [if_pos (by decide +kernel)]; kernel_rfl) | (rw [if_neg (by decide +kernel)]; exact ⟨rfl, rfl⟩))
    (fun os started H enc _ => lifted os started H enc)
theorem proved : Rows.JobLongSaid := over
#print axioms proved
end Go.Proofs.Ytojjffafofjfiaa.jobLong
namespace Go.Proofs.Ytojjffafofjfiaa
/-- The row, under a short name, for the claim. -/
theorem jobLong_holds : Rows.JobLongSaid := jobLong.proved
end Go.Proofs.Ytojjffafofjfiaa
