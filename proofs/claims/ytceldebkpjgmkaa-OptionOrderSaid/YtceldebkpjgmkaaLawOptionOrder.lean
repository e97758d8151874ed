-- Written by a program of this session (hprint.py), out of the translation; functions that the print does not take are given by hand.
import Derived.Test.YtceldebkpjgmkaaRows
import Derived.Test.YtceldebkpjgmkaaPureOptionOrder
import Derived.Test.YtceldebkpjgmkaaOpen
import Derived.WalkKit
import Derived.ProofKit
import Derived.OpenShut
import Derived.ShutString
import Derived.ChangeOld
import Derived.Below
import Derived.SizedLaws
namespace Go.Proofs.Ytceldebkpjgmkaa.optionOrder
open Go.ChangeShapes Go.WideShapes Go.ChangeAt Go.RowKit Go.Proofs.YtceldebkpjgmkaaO Go.Proofs.Ytceldebkpjgmkaa.P Go.Proofs.YtceldebkpjgmkaaW.PrintWords
set_option linter.unusedVariables false
theorem own : ownKnob Try.prog.godebug = none := by kernel_rfl
theorem laidOut : laidOutB Try.prog = true := by kernel_rfl
theorem leaves23 : leavesOf Try.prog 5 23 = some [some .i64, some .i64, some .i64] := by kernel_rfl
set_option maxRecDepth 100000 in
set_option maxHeartbeats 2000000 in
theorem lifted (os : Os) (started : os.Started) (H : Type) (enc : TypeId × Value → H) :
    ReturnsInHanded {} Try.checked os 3 .any (Rows.optionOrderSpec.pre6 enc Try.prog Try.f3 Rows.optionOrderRow.domain false) (Rows.optionOrderSpec.post enc Try.prog Try.f3 false true false false) := by
  refine returnsInHanded_of_change_sized (C := Try.checked) own started (by kernel_rfl) Try.func3
    (ChangeSpec.witness6 (enc := enc) (C := Try.checked) false ⟨#[], #[.agg #[.int .i64 0, .int .i64 0, .int .i64 0], .agg #[.int .i64 0, .int .i64 0, .int .i64 0], .agg #[.int .i64 0, .int .i64 0, .int .i64 0]], []⟩ 8 (by kernel_rfl) (by kernel_rfl) (by kernel_rfl) (by kernel_rfl)) ?_
  intro W base args ds gs before hval0 hW hcnd hsz0 _
  have hsz : (DataW.weightsEach Try.prog (Try.f3.params.toList ++ Rows.optionOrderSpec.plain.varTypes Try.prog) (ds ++ gs)).all (· ≤ reachBytes) = true := hsz0
  have hval : ∀ (j : Nat) t v, Try.f3.params[j]? = some t → args[j]? = some v → Value.okWide Try.prog W .any base t v := hval0
  have hW' := hW
  obtain ⟨p, q, hA0, hV, rfl, hfz, hnd⟩ := hW
  have hA : DataW.TrodAll enc Try.prog W 0 (fun _ => true) true Try.f3.params.toList args.toList ds p := hA0
  rw [Try.params3] at hA hval hsz
  obtain ⟨v0, vs0, d0, ds0, p0, q0, hargs, rfl, rfl, h0, r0⟩ := trodAll_cons hA
  obtain ⟨v1, vs1, d1, ds1, p1, q1, rfl, rfl, rfl, h1, r1⟩ := trodAll_cons r0
  obtain ⟨v2, vs2, d2, ds2, p2, q2, rfl, rfl, rfl, h2, r2⟩ := trodAll_cons r1
  obtain ⟨rfl, rfl, rfl⟩ := trodAll_nil r2
  obtain rfl : args = #[v0, v1, v2] := by cases args; simp_all
  obtain ⟨rfl, rfl⟩ := trodVars_none hV
  obtain ⟨cs0, rfl, t0_0⟩ := open_flat leaves23 Try.underlying23 (hval 0 23 v0 rfl rfl) h0
  obtain ⟨_, _, rfl, ⟨a0_0, rfl, w0_0⟩, t0_1⟩ := fits_cons t0_0
  obtain ⟨_, _, rfl, ⟨a0_1, rfl, w0_1⟩, t0_2⟩ := fits_cons t0_1
  obtain ⟨_, _, rfl, ⟨a0_2, rfl, w0_2⟩, t0_3⟩ := fits_cons t0_2
  obtain rfl := fits_nil t0_3
  have k0 := h0
  have lt0 : ∀ x ∈ p0, x.block < W.heap.size := by obtain ⟨m, hm⟩ := k0; exact DataW.trod_lt m _ _ _ hm
  obtain ⟨cs1, rfl, t1_0⟩ := open_flat leaves23 Try.underlying23 (hval 1 23 v1 rfl rfl) h1
  obtain ⟨_, _, rfl, ⟨a1_0, rfl, w1_0⟩, t1_1⟩ := fits_cons t1_0
  obtain ⟨_, _, rfl, ⟨a1_1, rfl, w1_1⟩, t1_2⟩ := fits_cons t1_1
  obtain ⟨_, _, rfl, ⟨a1_2, rfl, w1_2⟩, t1_3⟩ := fits_cons t1_2
  obtain rfl := fits_nil t1_3
  have k1 := h1
  have lt1 : ∀ x ∈ p1, x.block < W.heap.size := by obtain ⟨m, hm⟩ := k1; exact DataW.trod_lt m _ _ _ hm
  obtain ⟨cs2, rfl, t2_0⟩ := open_flat leaves23 Try.underlying23 (hval 2 23 v2 rfl rfl) h2
  obtain ⟨_, _, rfl, ⟨a2_0, rfl, w2_0⟩, t2_1⟩ := fits_cons t2_0
  obtain ⟨_, _, rfl, ⟨a2_1, rfl, w2_1⟩, t2_2⟩ := fits_cons t2_1
  obtain ⟨_, _, rfl, ⟨a2_2, rfl, w2_2⟩, t2_3⟩ := fits_cons t2_2
  obtain rfl := fits_nil t2_3
  have k2 := h2
  have lt2 : ∀ x ∈ p2, x.block < W.heap.size := by obtain ⟨m, hm⟩ := k2; exact DataW.trod_lt m _ _ _ hm
  clear hA0 hval0 hsz0 hsz
  obtain ⟨k, hk⟩ := Pure.OptionOrder a0_0 a0_1 a0_2 a1_0 a1_1 a1_2 a2_0 a2_1 a2_2 w0_0 w0_1 w0_2 w1_0 w1_1 w1_2 w2_0 w2_1 w2_2
  refine (fuseelaw14_OptionOrder.calls k a0_0 a0_1 a0_2 a1_0 a1_1 a1_2 a2_0 a2_1 a2_2 true W  hk).mono fun e W' ⟨he, bel⟩ => ?_
  subst he
  exact ⟨_, rfl, _, _, _, [], _, [], hW', trodAll_mk1 (shut_bool Try.underlying4 _), (trodAll_cons_mk (Below.trod laidOut (by kernel_rfl) (of_decide_eq_true (by kernel_rfl)) k0 bel lt0) (trodAll_cons_mk (Below.trod laidOut (by kernel_rfl) (of_decide_eq_true (by kernel_rfl)) k1 bel lt1) (trodAll_cons_mk (Below.trod laidOut (by kernel_rfl) (of_decide_eq_true (by kernel_rfl)) k2 bel lt2) trodAll_mk0))), rfl, bel.frame _, fun h => by cases h⟩
theorem over : Rows.optionOrderRow.holds Try.pinned (OpenSpec.ofChange Rows.optionOrderSpec) :=
  OpenClaim.holds_of_wide 3 Try.f3 rfl rfl rfl rfl rfl rfl rfl ⟨rfl, rfl, rfl, rfl, rfl⟩ rfl rfl rfl rfl rfl (by kernel_rfl) Try.func3 (by kernel_rfl)
    (of_decide_eq_true (by kernel_rfl)) (by unfold Func.isWrapper; first | (rw [if_pos (by decide +kernel)]; kernel_rfl) | (rw [if_neg (by decide +kernel)]; exact ⟨rfl, rfl⟩))
    (fun os started H enc _ => lifted os started H enc)
theorem proved : Rows.OptionOrderSaid := over
#print axioms proved
end Go.Proofs.Ytceldebkpjgmkaa.optionOrder
namespace Go.Proofs.Ytceldebkpjgmkaa
/-- The row, under a short name, for the claim. -/
theorem optionOrder_holds : Rows.OptionOrderSaid := optionOrder.proved
end Go.Proofs.Ytceldebkpjgmkaa
