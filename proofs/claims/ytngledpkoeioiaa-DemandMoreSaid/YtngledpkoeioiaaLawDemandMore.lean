-- Written by a program of this session (hprint.py), out of the translation; functions that the print does not take are given by hand.
import Derived.Test.YtngledpkoeioiaaRows
import Derived.Test.YtngledpkoeioiaaPureDemandMore
import Derived.Test.YtngledpkoeioiaaOpen
import Derived.WalkKit
import Derived.ProofKit
import Derived.OpenShut
import Derived.ShutString
import Derived.ChangeOld
import Derived.Below
import Derived.SizedLaws
namespace Go.Proofs.Ytngledpkoeioiaa.demandMore
open Go.ChangeShapes Go.WideShapes Go.ChangeAt Go.RowKit Go.Proofs.YtngledpkoeioiaaO Go.Proofs.Ytngledpkoeioiaa.P Go.Proofs.YtngledpkoeioiaaW.PrintWords
set_option linter.unusedVariables false
theorem own : ownKnob Try.prog.godebug = none := by kernel_rfl
theorem laidOut : laidOutB Try.prog = true := by kernel_rfl
theorem leaves26 : leavesOf Try.prog 5 26 = some [some .i64, some .i64, some .i64, some .i64, some .i64, some .i64, some .i64] := by kernel_rfl
set_option maxRecDepth 100000 in
set_option maxHeartbeats 2000000 in
theorem lifted (os : Os) (started : os.Started) (H : Type) (enc : TypeId × Value → H) :
    ReturnsInHanded {} Try.checked os 3 .any (Rows.demandMoreSpec.pre6 enc Try.prog Try.f3 Rows.demandMoreRow.domain false) (Rows.demandMoreSpec.post enc Try.prog Try.f3 false true false false) := by
  refine returnsInHanded_of_change_sized (C := Try.checked) own started (by kernel_rfl) Try.func3
    (ChangeSpec.witness6 (enc := enc) (C := Try.checked) false ⟨#[], #[.slice none 0 0, .agg #[.int .i64 0, .int .i64 0, .int .i64 0, .int .i64 0, .int .i64 0, .int .i64 0, .int .i64 0], .int .i64 0, .int .i64 0, .int .i64 0], []⟩ 8 (by kernel_rfl) (by kernel_rfl) (by kernel_rfl) (by kernel_rfl)) ?_
  intro W base args ds gs before hval0 hW hcnd hsz0 _
  have hsz : (DataW.weightsEach Try.prog (Try.f3.params.toList ++ Rows.demandMoreSpec.plain.varTypes Try.prog) (ds ++ gs)).all (· ≤ reachBytes) = true := hsz0
  have hval : ∀ (j : Nat) t v, Try.f3.params[j]? = some t → args[j]? = some v → Value.okWide Try.prog W .any base t v := hval0
  have hW' := hW
  obtain ⟨p, q, hA0, hV, rfl, hfz, hnd⟩ := hW
  have hA : DataW.TrodAll enc Try.prog W 0 (fun _ => true) true Try.f3.params.toList args.toList ds p := hA0
  rw [Try.params3] at hA hval hsz
  obtain ⟨v0, vs0, d0, ds0, p0, q0, hargs, rfl, rfl, h0, r0⟩ := trodAll_cons hA
  obtain ⟨v1, vs1, d1, ds1, p1, q1, rfl, rfl, rfl, h1, r1⟩ := trodAll_cons r0
  obtain ⟨v2, vs2, d2, ds2, p2, q2, rfl, rfl, rfl, h2, r2⟩ := trodAll_cons r1
  obtain ⟨v3, vs3, d3, ds3, p3, q3, rfl, rfl, rfl, h3, r3⟩ := trodAll_cons r2
  obtain ⟨v4, vs4, d4, ds4, p4, q4, rfl, rfl, rfl, h4, r4⟩ := trodAll_cons r3
  obtain ⟨rfl, rfl, rfl⟩ := trodAll_nil r4
  obtain rfl : args = #[v0, v1, v2, v3, v4] := by cases args; simp_all
  obtain ⟨rfl, rfl⟩ := trodVars_none hV
  obtain ⟨A0, len0, cap0, rfl⟩ := okWide_slice Try.underlying22 (hval 0 22 v0 rfl rfl)
  have k0 := h0
  have lt0 : ∀ x ∈ p0, x.block < W.heap.size := by obtain ⟨m, hm⟩ := k0; exact DataW.trod_lt m _ _ _ hm
  have y0 : len0 * 56 ≤ 140737488351232 := sized_list hsz (j := 0) (t := 22) rfl rfl Try.underlying22 (by kernel_rfl) h0
  obtain ⟨l0, e0, hr0, hc0, hm0, hg0⟩ := open_list (k26) (good := fun x => (Lit.int .i64 x.f0.f0).wf = true ∧ (Lit.int .i64 x.f0.f1).wf = true ∧ (Lit.int .i64 x.f0.f2).wf = true ∧ (Lit.int .i64 x.f0.f3).wf = true ∧ (Lit.int .i64 x.f0.f4).wf = true ∧ (Lit.int .i64 x.f0.f5).wf = true ∧ (Lit.int .i64 x.f1).wf = true) leaves26 Try.underlying22 (by kernel_rfl) (fun cs z0 => by
      obtain ⟨_, _, rfl, ⟨c0, rfl, w0⟩, z1⟩ := fits_cons z0
      obtain ⟨_, _, rfl, ⟨c1, rfl, w1⟩, z2⟩ := fits_cons z1
      obtain ⟨_, _, rfl, ⟨c2, rfl, w2⟩, z3⟩ := fits_cons z2
      obtain ⟨_, _, rfl, ⟨c3, rfl, w3⟩, z4⟩ := fits_cons z3
      obtain ⟨_, _, rfl, ⟨c4, rfl, w4⟩, z5⟩ := fits_cons z4
      obtain ⟨_, _, rfl, ⟨c5, rfl, w5⟩, z6⟩ := fits_cons z5
      obtain ⟨_, _, rfl, ⟨c6, rfl, w6⟩, z7⟩ := fits_cons z6
      obtain rfl := fits_nil z7
      exact ⟨⟨⟨c0, c1, c2, c3, c4, c5⟩, c6⟩, ⟨w0, w1, w2, w3, w4, w5, w6⟩, k26_mk W _⟩) h0
  subst e0
  obtain ⟨cs1, rfl, t1_0⟩ := open_flat leaves26 Try.underlying26 (hval 1 26 v1 rfl rfl) h1
  obtain ⟨_, _, rfl, ⟨a1_0, rfl, w1_0⟩, t1_1⟩ := fits_cons t1_0
  obtain ⟨_, _, rfl, ⟨a1_1, rfl, w1_1⟩, t1_2⟩ := fits_cons t1_1
  obtain ⟨_, _, rfl, ⟨a1_2, rfl, w1_2⟩, t1_3⟩ := fits_cons t1_2
  obtain ⟨_, _, rfl, ⟨a1_3, rfl, w1_3⟩, t1_4⟩ := fits_cons t1_3
  obtain ⟨_, _, rfl, ⟨a1_4, rfl, w1_4⟩, t1_5⟩ := fits_cons t1_4
  obtain ⟨_, _, rfl, ⟨a1_5, rfl, w1_5⟩, t1_6⟩ := fits_cons t1_5
  obtain ⟨_, _, rfl, ⟨a1_6, rfl, w1_6⟩, t1_7⟩ := fits_cons t1_6
  obtain rfl := fits_nil t1_7
  have k1 := h1
  have lt1 : ∀ x ∈ p1, x.block < W.heap.size := by obtain ⟨m, hm⟩ := k1; exact DataW.trod_lt m _ _ _ hm
  obtain ⟨a2, rfl, rfl, rfl, w2⟩ := open_int Try.underlying3 (hval 2 3 v2 rfl rfl) h2
  obtain ⟨a3, rfl, rfl, rfl, w3⟩ := open_int Try.underlying3 (hval 3 3 v3 rfl rfl) h3
  obtain ⟨a4, rfl, rfl, rfl, w4⟩ := open_int Try.underlying3 (hval 4 3 v4 rfl rfl) h4
  clear hA0 hval0 hsz0 hsz
  obtain ⟨k, hk⟩ := Pure.DemandMore l0 a1_0 a1_1 a1_2 a1_3 a1_4 a1_5 a1_6 a2 a3 a4 hm0 y0 hg0 w1_0 w1_1 w1_2 w1_3 w1_4 w1_5 w1_6 w2 w3 w4
  refine (fuseelaw09_DemandMore.calls k _ _ l0 a1_0 a1_1 a1_2 a1_3 a1_4 a1_5 a1_6 a2 a3 a4 true W hr0 hc0 hk).mono fun e W' ⟨he, bel⟩ => ?_
  subst he
  exact ⟨_, rfl, _, _, _, [], _, [], hW', trodAll_mk1 (shut_bool Try.underlying4 _), (trodAll_cons_mk (Below.trod laidOut (by kernel_rfl) (of_decide_eq_true (by kernel_rfl)) k0 bel lt0) (trodAll_cons_mk (Below.trod laidOut (by kernel_rfl) (of_decide_eq_true (by kernel_rfl)) k1 bel lt1) (trodAll_cons_mk (shut_int Try.underlying3 w2) (trodAll_cons_mk (shut_int Try.underlying3 w3) (trodAll_cons_mk (shut_int Try.underlying3 w4) trodAll_mk0))))), rfl, bel.frame _, fun h => by cases h⟩
theorem over : Rows.demandMoreRow.holds Try.pinned (OpenSpec.ofChange Rows.demandMoreSpec) :=
  OpenClaim.holds_of_wide 3 Try.f3 rfl rfl rfl rfl rfl rfl rfl ⟨rfl, rfl, rfl, rfl, rfl⟩ rfl rfl rfl rfl rfl (by kernel_rfl) Try.func3 (by kernel_rfl)
    (of_decide_eq_true (by kernel_rfl)) (by unfold Func.isWrapper; first | (rw [if_pos (by decide +kernel)]; kernel_rfl) | (rw [if_neg (by decide +kernel)]; exact ⟨rfl, rfl⟩))
    (fun os started H enc _ => lifted os started H enc)
theorem proved : Rows.DemandMoreSaid := over
#print axioms proved
end Go.Proofs.Ytngledpkoeioiaa.demandMore
namespace Go.Proofs.Ytngledpkoeioiaa
/-- The row, under a short name, for the claim. -/
theorem demandMore_holds : Rows.DemandMoreSaid := demandMore.proved
end Go.Proofs.Ytngledpkoeioiaa
