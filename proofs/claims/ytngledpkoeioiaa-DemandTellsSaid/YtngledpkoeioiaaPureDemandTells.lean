/- Any tasks at their periods may be, or not, must have as much done, have the horizon, and pass, or not, as the document says. No condition. -/
import Derived.Test.YtngledpkoeioiaaQDemandTells
import Derived.Test.YtngledpkoeioiaaLibDemandRef
import Derived.Test.YtngledpkoeioiaaLibA09
namespace Go.Proofs.Ytngledpkoeioiaa.Pure
open Go.RowKit Go.Proofs.Ytngledpkoeioiaa.P Go.Proofs.YtngledpkoeioiaaW.PrintWords Go.Proofs.YtngledpkoeioiaaW.PrintLast
set_option linter.unusedVariables false
set_option linter.unusedSimpArgs false
theorem DemandTells : fuseelaw09_DemandTells.Pure := by
  intro l C T X M K E p n _ hl _ _ _ _ _ _ _ _ _
  refine ⟨l.length + 2000, ?_⟩
  unfold fuseelaw09_DemandTells.f
  rw [awake09 (by omega), Option.bind_some, if_pos rfl]
  by_cases c : (l.length : Int) > 1100
  · rw [if_pos c]
  obtain ⟨r, hr, hf⟩ := first_eq l (by omega) (k := l.length + 2000) (by omega)
  obtain ⟨s, hs, hg⟩ := rfirst_eq l (by omega) (k := l.length + 2000) (by omega)
  obtain rfl := fstF_one hf hg
  have a1 : demand_Of.f C T X M K E p n = some (ofF ⟨⟨C, T, X, M, K, E⟩, p⟩ n) := of_fix ⟨⟨C, T, X, M, K, E⟩, p⟩ n
  have a2 : fuseeref09_Of.f (l.length + 2000) C T X M K E p n = some (ofF ⟨⟨C, T, X, M, K, E⟩, p⟩ n) := rof_fix (l.length + 1999) ⟨⟨C, T, X, M, K, E⟩, p⟩ n
  rw [if_neg c, may_list l (by omega) (by omega), rmay_list l (by omega) (by omega), Option.bind_some, Option.bind_some, if_pos (by simp), a1, a2, Option.bind_some, Option.bind_some, if_pos rfl,
    all_eq l n (by omega), rall_eq l n (by omega), Option.bind_some, Option.bind_some, if_pos rfl, hor_eq l (by omega) (by omega), rhor_eq l (by omega) (by omega), Option.bind_some, Option.bind_some, if_pos rfl,
    hr, hs, Option.bind_some, Option.bind_some, if_pos rfl, test_eq l (by omega) (by omega), rtest_eq l (by omega) (by omega), Option.bind_some, Option.bind_some]
  simp
end Go.Proofs.Ytngledpkoeioiaa.Pure
