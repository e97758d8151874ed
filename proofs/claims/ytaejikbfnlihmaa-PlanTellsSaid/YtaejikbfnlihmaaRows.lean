/-
  No cell of these rows narrows 'for every input' (looked for: loops, veiled, ifaces, maps, wideKeys, modest, calm, conditions, laid).
  DERIVED. THE GIVEN ROWS OF THIS SEAT. 7 by the template 'for every input the law returns true; each argument reads behind the call as it read before'; 0 by the template 'total and deterministic' (their statements: YtaejikbfnlihmaaTotals.lean).
  GIVEN WITH THE SEED: the statements are not yours to turn. If you find one false, say at which input.
  Laid BY PROGRAM, IN A SANDBOX (cutbox-rows.mjs): the forced cells as the released guide's own fill.sh prints them over the translation 74cc0314f8220522… (all of the seat's roots in one cut). By AI agents, Wed Nov 11 2026. No macro, syntax, notation, axiom, sorry.
-/
import Derived.Test.YtaejikbfnlihmaaChecked
import GoSem.Claim
import GoSem.ClaimJoined
import GoSem.ClaimMapViews
import Derived.JoinedTies
import Derived.KernelRfl
namespace Go.Proofs.Ytaejikbfnlihmaa
/- THE CELL 'sum', in the pinned program and in every row, IS THE sha256 OF THE DUMP (.gsa) THAT YtaejikbfnlihmaaProg.lean LOADS. Nothing in Lean hashes anything: it is a label: what it is worth is what the hold of that sum in a sandbox is worth. -/
noncomputable def Try.pinned : Pinned := { name := "ytaejikbfnlihmaa", sum := "74cc0314f82205225ea241b36652e0adc34013adaa6e12e4dd896f1d15c0c2ab", checked := Try.checked }
namespace Rows
def none {H : Type} : Left H := { results := [], args := [] }

/-- 'fuseelaw10.PlanTells': WHATEVER THE INPUT: true; the input reads as it did. -/
def planTellsSpec : ChangeSpec := { name := "planTells", fn := fun _ => fun
  | [d1, d2, d3] => { results := [.lit (.bool true)], args := [d1, d2, d3] }
  | _ => none }
def planTellsRow : OpenClaim := { program := "ytaejikbfnlihmaa", sum := "74cc0314f82205225ea241b36652e0adc34013adaa6e12e4dd896f1d15c0c2ab", func := "fusee/fuseelaw10.PlanTells", spec := "planTells", unfollowed := true, recurses := true, apart := false }
def PlanTellsSaid : Prop := planTellsRow.holds Try.pinned (OpenSpec.ofChange planTellsSpec)

/-- ITS FALSE NEIGHBOUR: 'it returns false'. Refute it at one input. -/
def planTellsWrong : ChangeSpec := { name := "planTells", fn := fun _ => fun
  | [d1, d2, d3] => { results := [.lit (.bool false)], args := [d1, d2, d3] }
  | _ => none }
def PlanTellsWrongFalsely : Prop := planTellsRow.holds Try.pinned (OpenSpec.ofChange planTellsWrong)

/-- 'fuseelaw10.PlanFits': WHATEVER THE INPUT: true; the input reads as it did. -/
def planFitsSpec : ChangeSpec := { name := "planFits", fn := fun _ => fun
  | [d] => { results := [.lit (.bool true)], args := [d] }
  | _ => none }
def planFitsRow : OpenClaim := { program := "ytaejikbfnlihmaa", sum := "74cc0314f82205225ea241b36652e0adc34013adaa6e12e4dd896f1d15c0c2ab", func := "fusee/fuseelaw10.PlanFits", spec := "planFits", unfollowed := true, recurses := true, apart := false }
def PlanFitsSaid : Prop := planFitsRow.holds Try.pinned (OpenSpec.ofChange planFitsSpec)

/-- ITS FALSE NEIGHBOUR: 'it returns false'. Refute it at one input. -/
def planFitsWrong : ChangeSpec := { name := "planFits", fn := fun _ => fun
  | [d] => { results := [.lit (.bool false)], args := [d] }
  | _ => none }
def PlanFitsWrongFalsely : Prop := planFitsRow.holds Try.pinned (OpenSpec.ofChange planFitsWrong)

/-- 'fuseelaw10.PlanWhy': WHATEVER THE INPUT: true; the input reads as it did. -/
def planWhySpec : ChangeSpec := { name := "planWhy", fn := fun _ => fun
  | [d] => { results := [.lit (.bool true)], args := [d] }
  | _ => none }
def planWhyRow : OpenClaim := { program := "ytaejikbfnlihmaa", sum := "74cc0314f82205225ea241b36652e0adc34013adaa6e12e4dd896f1d15c0c2ab", func := "fusee/fuseelaw10.PlanWhy", spec := "planWhy", unfollowed := true, recurses := true, apart := false }
def PlanWhySaid : Prop := planWhyRow.holds Try.pinned (OpenSpec.ofChange planWhySpec)

/-- ITS FALSE NEIGHBOUR: 'it returns false'. Refute it at one input. -/
def planWhyWrong : ChangeSpec := { name := "planWhy", fn := fun _ => fun
  | [d] => { results := [.lit (.bool false)], args := [d] }
  | _ => none }
def PlanWhyWrongFalsely : Prop := planWhyRow.holds Try.pinned (OpenSpec.ofChange planWhyWrong)

/-- 'fuseelaw10.PlanLess': WHATEVER THE INPUT: true; the input reads as it did. -/
def planLessSpec : ChangeSpec := { name := "planLess", fn := fun _ => fun
  | [d1, d2] => { results := [.lit (.bool true)], args := [d1, d2] }
  | _ => none }
def planLessRow : OpenClaim := { program := "ytaejikbfnlihmaa", sum := "74cc0314f82205225ea241b36652e0adc34013adaa6e12e4dd896f1d15c0c2ab", func := "fusee/fuseelaw10.PlanLess", spec := "planLess", unfollowed := true, recurses := true, apart := false }
def PlanLessSaid : Prop := planLessRow.holds Try.pinned (OpenSpec.ofChange planLessSpec)

/-- ITS FALSE NEIGHBOUR: 'it returns false'. Refute it at one input. -/
def planLessWrong : ChangeSpec := { name := "planLess", fn := fun _ => fun
  | [d1, d2] => { results := [.lit (.bool false)], args := [d1, d2] }
  | _ => none }
def PlanLessWrongFalsely : Prop := planLessRow.holds Try.pinned (OpenSpec.ofChange planLessWrong)

/-- 'fuseelaw10.PlanTurned': WHATEVER THE INPUT: true; the input reads as it did. -/
def planTurnedSpec : ChangeSpec := { name := "planTurned", fn := fun _ => fun
  | [d] => { results := [.lit (.bool true)], args := [d] }
  | _ => none }
def planTurnedRow : OpenClaim := { program := "ytaejikbfnlihmaa", sum := "74cc0314f82205225ea241b36652e0adc34013adaa6e12e4dd896f1d15c0c2ab", func := "fusee/fuseelaw10.PlanTurned", spec := "planTurned", unfollowed := true, recurses := true, apart := false }
def PlanTurnedSaid : Prop := planTurnedRow.holds Try.pinned (OpenSpec.ofChange planTurnedSpec)

/-- ITS FALSE NEIGHBOUR: 'it returns false'. Refute it at one input. -/
def planTurnedWrong : ChangeSpec := { name := "planTurned", fn := fun _ => fun
  | [d] => { results := [.lit (.bool false)], args := [d] }
  | _ => none }
def PlanTurnedWrongFalsely : Prop := planTurnedRow.holds Try.pinned (OpenSpec.ofChange planTurnedWrong)

/-- 'fuseelaw10.PlanAlone': WHATEVER THE INPUT: true; the input reads as it did. -/
def planAloneSpec : ChangeSpec := { name := "planAlone", fn := fun _ => fun
  | [d] => { results := [.lit (.bool true)], args := [d] }
  | _ => none }
def planAloneRow : OpenClaim := { program := "ytaejikbfnlihmaa", sum := "74cc0314f82205225ea241b36652e0adc34013adaa6e12e4dd896f1d15c0c2ab", func := "fusee/fuseelaw10.PlanAlone", spec := "planAlone", unfollowed := true, recurses := true, apart := false }
def PlanAloneSaid : Prop := planAloneRow.holds Try.pinned (OpenSpec.ofChange planAloneSpec)

/-- ITS FALSE NEIGHBOUR: 'it returns false'. Refute it at one input. -/
def planAloneWrong : ChangeSpec := { name := "planAlone", fn := fun _ => fun
  | [d] => { results := [.lit (.bool false)], args := [d] }
  | _ => none }
def PlanAloneWrongFalsely : Prop := planAloneRow.holds Try.pinned (OpenSpec.ofChange planAloneWrong)

/-- 'fuseelaw10.PlanBound': WHATEVER THE INPUT: true; the input reads as it did. -/
def planBoundSpec : ChangeSpec := { name := "planBound", fn := fun _ => fun
  | [d1, d2] => { results := [.lit (.bool true)], args := [d1, d2] }
  | _ => none }
def planBoundRow : OpenClaim := { program := "ytaejikbfnlihmaa", sum := "74cc0314f82205225ea241b36652e0adc34013adaa6e12e4dd896f1d15c0c2ab", func := "fusee/fuseelaw10.PlanBound", spec := "planBound", unfollowed := true, recurses := true, apart := false }
def PlanBoundSaid : Prop := planBoundRow.holds Try.pinned (OpenSpec.ofChange planBoundSpec)

/-- ITS FALSE NEIGHBOUR: 'it returns false'. Refute it at one input. -/
def planBoundWrong : ChangeSpec := { name := "planBound", fn := fun _ => fun
  | [d1, d2] => { results := [.lit (.bool false)], args := [d1, d2] }
  | _ => none }
def PlanBoundWrongFalsely : Prop := planBoundRow.holds Try.pinned (OpenSpec.ofChange planBoundWrong)

/- THE SECOND FORM. 'bulk': how many values and letters a reading holds, each counted each time it is reached (what is shared counts as often as it is met; a slice's spare places count too). A statement '..UptoSaid' is the law's where the arguments, and the package variables that the reading takes, are together of bulk at most 1048576: NARROWER than '..Said'. Prove '..Said' where nothing that the law and all that it calls make is longer than what came in: it says more and counts as full. Else prove '..UptoSaid'. A law counts once. -/
mutual
def uptoBulk {H : Type} : DataW H → Nat
  | .lit (.string bytes) => bytes.length + 1
  | .lit _ => 1
  | .nil => 1
  | .ptr d => uptoBulk d + 1
  | .slice elems spare => uptoBulkAll elems + uptoBulkAll spare + 1
  | .agg parts => uptoBulkAll parts + 1
  | .iface _ d => uptoBulk d + 1
  | .map entries => uptoBulkEntries entries + 1
  | .held _ => 1
def uptoBulkAll {H : Type} : List (DataW H) → Nat
  | [] => 0
  | d :: r => uptoBulk d + uptoBulkAll r
def uptoBulkEntries {H : Type} : List (Lit × DataW H) → Nat
  | [] => 0
  | x :: r => uptoBulkEntry x + uptoBulkEntries r
def uptoBulkEntry {H : Type} : Lit × DataW H → Nat
  | (.string bytes, d) => bytes.length + uptoBulk d + 1
  | (_, d) => uptoBulk d + 1
 end
def uptoSmall : (H : Type) → List (DataW H) → Bool := fun _ ds => decide (uptoBulkAll ds ≤ 1048576)
def OpenSpec.upto (s : _root_.Go.ChangeSpec) : _root_.Go.OpenSpec := { _root_.Go.OpenSpec.ofChange s with cond := some uptoSmall }

/-- 'fuseelaw10.PlanTells', WHERE WHAT IT READS IS OF BULK AT MOST 1048576: true; the input reads as it did. -/
def planTellsUptoRow : OpenClaim := { program := "ytaejikbfnlihmaa", sum := "74cc0314f82205225ea241b36652e0adc34013adaa6e12e4dd896f1d15c0c2ab", func := "fusee/fuseelaw10.PlanTells", spec := "planTells", unfollowed := true, recurses := true, apart := false, narrowed := true }
def PlanTellsUptoSaid : Prop := planTellsUptoRow.holds Try.pinned (OpenSpec.upto planTellsSpec)

/-- 'fuseelaw10.PlanFits', WHERE WHAT IT READS IS OF BULK AT MOST 1048576: true; the input reads as it did. -/
def planFitsUptoRow : OpenClaim := { program := "ytaejikbfnlihmaa", sum := "74cc0314f82205225ea241b36652e0adc34013adaa6e12e4dd896f1d15c0c2ab", func := "fusee/fuseelaw10.PlanFits", spec := "planFits", unfollowed := true, recurses := true, apart := false, narrowed := true }
def PlanFitsUptoSaid : Prop := planFitsUptoRow.holds Try.pinned (OpenSpec.upto planFitsSpec)

/-- 'fuseelaw10.PlanWhy', WHERE WHAT IT READS IS OF BULK AT MOST 1048576: true; the input reads as it did. -/
def planWhyUptoRow : OpenClaim := { program := "ytaejikbfnlihmaa", sum := "74cc0314f82205225ea241b36652e0adc34013adaa6e12e4dd896f1d15c0c2ab", func := "fusee/fuseelaw10.PlanWhy", spec := "planWhy", unfollowed := true, recurses := true, apart := false, narrowed := true }
def PlanWhyUptoSaid : Prop := planWhyUptoRow.holds Try.pinned (OpenSpec.upto planWhySpec)

/-- 'fuseelaw10.PlanLess', WHERE WHAT IT READS IS OF BULK AT MOST 1048576: true; the input reads as it did. -/
def planLessUptoRow : OpenClaim := { program := "ytaejikbfnlihmaa", sum := "74cc0314f82205225ea241b36652e0adc34013adaa6e12e4dd896f1d15c0c2ab", func := "fusee/fuseelaw10.PlanLess", spec := "planLess", unfollowed := true, recurses := true, apart := false, narrowed := true }
def PlanLessUptoSaid : Prop := planLessUptoRow.holds Try.pinned (OpenSpec.upto planLessSpec)

/-- 'fuseelaw10.PlanTurned', WHERE WHAT IT READS IS OF BULK AT MOST 1048576: true; the input reads as it did. -/
def planTurnedUptoRow : OpenClaim := { program := "ytaejikbfnlihmaa", sum := "74cc0314f82205225ea241b36652e0adc34013adaa6e12e4dd896f1d15c0c2ab", func := "fusee/fuseelaw10.PlanTurned", spec := "planTurned", unfollowed := true, recurses := true, apart := false, narrowed := true }
def PlanTurnedUptoSaid : Prop := planTurnedUptoRow.holds Try.pinned (OpenSpec.upto planTurnedSpec)

/-- 'fuseelaw10.PlanAlone', WHERE WHAT IT READS IS OF BULK AT MOST 1048576: true; the input reads as it did. -/
def planAloneUptoRow : OpenClaim := { program := "ytaejikbfnlihmaa", sum := "74cc0314f82205225ea241b36652e0adc34013adaa6e12e4dd896f1d15c0c2ab", func := "fusee/fuseelaw10.PlanAlone", spec := "planAlone", unfollowed := true, recurses := true, apart := false, narrowed := true }
def PlanAloneUptoSaid : Prop := planAloneUptoRow.holds Try.pinned (OpenSpec.upto planAloneSpec)

/-- 'fuseelaw10.PlanBound', WHERE WHAT IT READS IS OF BULK AT MOST 1048576: true; the input reads as it did. -/
def planBoundUptoRow : OpenClaim := { program := "ytaejikbfnlihmaa", sum := "74cc0314f82205225ea241b36652e0adc34013adaa6e12e4dd896f1d15c0c2ab", func := "fusee/fuseelaw10.PlanBound", spec := "planBound", unfollowed := true, recurses := true, apart := false, narrowed := true }
def PlanBoundUptoSaid : Prop := planBoundUptoRow.holds Try.pinned (OpenSpec.upto planBoundSpec)

end Rows
end Go.Proofs.Ytaejikbfnlihmaa
