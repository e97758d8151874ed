-- Written by a program of this session (hprint.py), out of the translation; functions that the print does not take are given by hand.
import Derived.Test.YtceldebkpjgmkaaRows
import Derived.Test.YtceldebkpjgmkaaPureOptionBoth
import Derived.Test.YtceldebkpjgmkaaOpen
import Derived.WalkKit
import Derived.ProofKit
import Derived.OpenShut
import Derived.ShutString
import Derived.ChangeOld
import Derived.Below
import Derived.SizedLaws
namespace Go.Proofs.Ytceldebkpjgmkaa.optionBoth
open Go.ChangeShapes Go.WideShapes Go.ChangeAt Go.RowKit Go.Proofs.YtceldebkpjgmkaaO Go.Proofs.Ytceldebkpjgmkaa.P Go.Proofs.YtceldebkpjgmkaaW.PrintWords
set_option linter.unusedVariables false
theorem own : ownKnob Try.prog.godebug = none := by kernel_rfl
theorem laidOut : laidOutB Try.prog = true := by kernel_rfl
theorem leaves23 : leavesOf Try.prog 5 23 = some [some .i64, some .i64, some .i64] := by kernel_rfl
set_option maxRecDepth 100000 in
set_option maxHeartbeats 2000000 in
theorem lifted (os : Os) (started : os.Started) (H : Type) (enc : TypeId × Value → H) :
    ReturnsInHanded {} Try.checked os 7 .any (Rows.optionBothSpec.pre6 enc Try.prog Try.f7 Rows.optionBothRow.domain false) (Rows.optionBothSpec.post enc Try.prog Try.f7 false true false false) := by
  refine returnsInHanded_of_change_sized (C := Try.checked) own started (by kernel_rfl) Try.func7
    (ChangeSpec.witness6 (enc := enc) (C := Try.checked) false ⟨#[], #[.slice none 0 0, .slice none 0 0], []⟩ 8 (by kernel_rfl) (by kernel_rfl) (by kernel_rfl) (by kernel_rfl)) ?_
  intro W base args ds gs before hval0 hW hcnd hsz0 _
  have hsz : (DataW.weightsEach Try.prog (Try.f7.params.toList ++ Rows.optionBothSpec.plain.varTypes Try.prog) (ds ++ gs)).all (· ≤ reachBytes) = true := hsz0
  have hval : ∀ (j : Nat) t v, Try.f7.params[j]? = some t → args[j]? = some v → Value.okWide Try.prog W .any base t v := hval0
  have hW' := hW
  obtain ⟨p, q, hA0, hV, rfl, hfz, hnd⟩ := hW
  have hA : DataW.TrodAll enc Try.prog W 0 (fun _ => true) true Try.f7.params.toList args.toList ds p := hA0
  rw [Try.params7] at hA hval hsz
  obtain ⟨v0, vs0, d0, ds0, p0, q0, hargs, rfl, rfl, h0, r0⟩ := trodAll_cons hA
  obtain ⟨v1, vs1, d1, ds1, p1, q1, rfl, rfl, rfl, h1, r1⟩ := trodAll_cons r0
  obtain ⟨rfl, rfl, rfl⟩ := trodAll_nil r1
  obtain rfl : args = #[v0, v1] := by cases args; simp_all
  obtain ⟨rfl, rfl⟩ := trodVars_none hV
  obtain ⟨A0, len0, cap0, rfl⟩ := okWide_slice Try.underlying40 (hval 0 40 v0 rfl rfl)
  have k0 := h0
  have lt0 : ∀ x ∈ p0, x.block < W.heap.size := by obtain ⟨m, hm⟩ := k0; exact DataW.trod_lt m _ _ _ hm
  have y0 : len0 * 24 ≤ 140737488351232 := sized_list hsz (j := 0) (t := 40) rfl rfl Try.underlying40 (by kernel_rfl) h0
  obtain ⟨l0, e0, hr0, hc0, hm0, hg0⟩ := open_list (k23) (good := fun x => (Lit.int .i64 x.f0).wf = true ∧ (Lit.int .i64 x.f1).wf = true ∧ (Lit.int .i64 x.f2).wf = true) leaves23 Try.underlying40 (by kernel_rfl) (fun cs z0 => by
      obtain ⟨_, _, rfl, ⟨c0, rfl, w0⟩, z1⟩ := fits_cons z0
      obtain ⟨_, _, rfl, ⟨c1, rfl, w1⟩, z2⟩ := fits_cons z1
      obtain ⟨_, _, rfl, ⟨c2, rfl, w2⟩, z3⟩ := fits_cons z2
      obtain rfl := fits_nil z3
      exact ⟨⟨c0, c1, c2⟩, ⟨w0, w1, w2⟩, k23_mk W _⟩) h0
  subst e0
  obtain ⟨A1, len1, cap1, rfl⟩ := okWide_slice Try.underlying40 (hval 1 40 v1 rfl rfl)
  have k1 := h1
  have lt1 : ∀ x ∈ p1, x.block < W.heap.size := by obtain ⟨m, hm⟩ := k1; exact DataW.trod_lt m _ _ _ hm
  have y1 : len1 * 24 ≤ 140737488351232 := sized_list hsz (j := 1) (t := 40) rfl rfl Try.underlying40 (by kernel_rfl) h1
  obtain ⟨l1, e1, hr1, hc1, hm1, hg1⟩ := open_list (k23) (good := fun x => (Lit.int .i64 x.f0).wf = true ∧ (Lit.int .i64 x.f1).wf = true ∧ (Lit.int .i64 x.f2).wf = true) leaves23 Try.underlying40 (by kernel_rfl) (fun cs z0 => by
      obtain ⟨_, _, rfl, ⟨c0, rfl, w0⟩, z1⟩ := fits_cons z0
      obtain ⟨_, _, rfl, ⟨c1, rfl, w1⟩, z2⟩ := fits_cons z1
      obtain ⟨_, _, rfl, ⟨c2, rfl, w2⟩, z3⟩ := fits_cons z2
      obtain rfl := fits_nil z3
      exact ⟨⟨c0, c1, c2⟩, ⟨w0, w1, w2⟩, k23_mk W _⟩) h1
  subst e1
  clear hA0 hval0 hsz0 hsz
  obtain ⟨k, hk⟩ := Pure.OptionBoth l0 l1 hm0 y0 hg0 hm1 y1 hg1
  refine (fuseelaw14_OptionBoth.calls k _ _ l0 _ _ l1 true W hr0 hc0 hr1 hc1 hk).mono fun e W' ⟨he, bel⟩ => ?_
  subst he
  exact ⟨_, rfl, _, _, _, [], _, [], hW', trodAll_mk1 (shut_bool Try.underlying4 _), (trodAll_cons_mk (Below.trod laidOut (by kernel_rfl) (of_decide_eq_true (by kernel_rfl)) k0 bel lt0) (trodAll_cons_mk (Below.trod laidOut (by kernel_rfl) (of_decide_eq_true (by kernel_rfl)) k1 bel lt1) trodAll_mk0)), rfl, bel.frame _, fun h => by cases h⟩
theorem over : Rows.optionBothRow.holds Try.pinned (OpenSpec.ofChange Rows.optionBothSpec) :=
  OpenClaim.holds_of_wide 7 Try.f7 rfl rfl rfl rfl rfl rfl rfl ⟨rfl, rfl, rfl, rfl, rfl⟩ rfl rfl rfl rfl rfl (by kernel_rfl) Try.func7 (by kernel_rfl)
    (of_decide_eq_true (by kernel_rfl)) (by unfold Func.isWrapper; first | (rw [if_pos (by decide +kernel)]; kernel_rfl) | (rw [if_neg (by decide +kernel)]; exact ⟨rfl, rfl⟩))
    (fun os started H enc _ => lifted os started H enc)
theorem proved : Rows.OptionBothSaid := over
#print axioms proved
end Go.Proofs.Ytceldebkpjgmkaa.optionBoth
namespace Go.Proofs.Ytceldebkpjgmkaa
/-- The row, under a short name, for the claim. -/
theorem optionBoth_holds : Rows.OptionBothSaid := optionBoth.proved
end Go.Proofs.Ytceldebkpjgmkaa
