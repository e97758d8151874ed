/- A list is the same as itself, as the document's comparison tells. No condition. -/
import Derived.Test.YtencdmcidhojgaaPx6
import Derived.Test.YtencdmcidhojgaaLibNum
namespace Go.Proofs.Ytencdmcidhojgaa.Pure
open Go.RowKit Go.Proofs.Ytencdmcidhojgaa.P Go.Proofs.YtencdmcidhojgaaW.PrintWords Go.Proofs.YtencdmcidhojgaaW.PrintLast Go.Proofs.YtencdmcidhojgaaW.PrintMore
set_option linter.unusedVariables false
set_option linter.unusedSimpArgs false
theorem ints_eq (l : List Int) (hl : l.length ≤ 100000) {f : Nat} (hf : l.length < f) : fuseeref06_Ints.f f l l = some true := by
  unfold fuseeref06_Ints.f
  rw [if_pos rfl]
  have loop : ∀ (d i f : Nat), i + d = l.length → d < f → fuseeref06_Ints.l0 f l l (i : Int) = some true := by
    intro d
    induction d with
    | zero =>
      intro i f hd hf
      obtain ⟨f, rfl⟩ : ∃ x, f = x + 1 := ⟨f - 1, by omega⟩
      rw [fuseeref06_Ints.l0, if_neg (by omega)]
    | succ d ih =>
      intro i f hd hf
      obtain ⟨f, rfl⟩ : ∃ x, f = x + 1 := ⟨f - 1, by omega⟩
      rw [fuseeref06_Ints.l0, if_pos (by omega), if_pos (by omega), if_pos (by omega), if_pos rfl, w64 (by omega) (by omega), show ((i : Int) + 1) = ((i + 1 : Nat) : Int) by omega]
      exact ih (i + 1) f (by omega) (by omega)
  exact loop l.length 0 f (by omega) hf
end Go.Proofs.Ytencdmcidhojgaa.Pure
