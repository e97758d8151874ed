/-
  No cell of these rows narrows 'for every input' (looked for: loops, veiled, ifaces, maps, wideKeys, modest, calm, conditions, laid).
  DERIVED. THE GIVEN ROWS OF THIS SEAT. 5 by the template 'for every input the law returns true; each argument reads behind the call as it read before'; 0 by the template 'total and deterministic' (their statements: YtencdmcidhojgaaTotals.lean).
  GIVEN WITH THE SEED: the statements are not yours to turn. If you find one false, say at which input.
  Laid BY PROGRAM, IN A SANDBOX (cutbox-rows.mjs): the forced cells as the released guide's own fill.sh prints them over the translation 0091b9be7fc6947d… (all of the seat's roots in one cut). By AI agents, Wed Nov 11 2026. No macro, syntax, notation, axiom, sorry.
-/
import Derived.Test.YtencdmcidhojgaaChecked
import GoSem.Claim
import GoSem.ClaimJoined
import GoSem.ClaimMapViews
import Derived.JoinedTies
import Derived.KernelRfl
namespace Go.Proofs.Ytencdmcidhojgaa
/- THE CELL 'sum', in the pinned program and in every row, IS THE sha256 OF THE DUMP (.gsa) THAT YtencdmcidhojgaaProg.lean LOADS. Nothing in Lean hashes anything: it is a label: what it is worth is what the hold of that sum in a sandbox is worth. -/
noncomputable def Try.pinned : Pinned := { name := "ytencdmcidhojgaa", sum := "0091b9be7fc6947d93526770b25fdc2178cabcaecac225abfb2fadbc78d20ae0", checked := Try.checked }
namespace Rows
def none {H : Type} : Left H := { results := [], args := [] }

/-- 'fuseelaw07.SpringTells': WHATEVER THE INPUT: true; the input reads as it did. -/
def springTellsSpec : ChangeSpec := { name := "springTells", fn := fun _ => fun
  | [d1, d2] => { results := [.lit (.bool true)], args := [d1, d2] }
  | _ => none }
def springTellsRow : OpenClaim := { program := "ytencdmcidhojgaa", sum := "0091b9be7fc6947d93526770b25fdc2178cabcaecac225abfb2fadbc78d20ae0", func := "fusee/fuseelaw07.SpringTells", spec := "springTells", unfollowed := true, recurses := true, apart := false }
def SpringTellsSaid : Prop := springTellsRow.holds Try.pinned (OpenSpec.ofChange springTellsSpec)

/-- ITS FALSE NEIGHBOUR: 'it returns false'. Refute it at one input. -/
def springTellsWrong : ChangeSpec := { name := "springTells", fn := fun _ => fun
  | [d1, d2] => { results := [.lit (.bool false)], args := [d1, d2] }
  | _ => none }
def SpringTellsWrongFalsely : Prop := springTellsRow.holds Try.pinned (OpenSpec.ofChange springTellsWrong)

/-- 'fuseelaw07.SpringFits': WHATEVER THE INPUT: true; the input reads as it did. -/
def springFitsSpec : ChangeSpec := { name := "springFits", fn := fun _ => fun
  | [d1, d2] => { results := [.lit (.bool true)], args := [d1, d2] }
  | _ => none }
def springFitsRow : OpenClaim := { program := "ytencdmcidhojgaa", sum := "0091b9be7fc6947d93526770b25fdc2178cabcaecac225abfb2fadbc78d20ae0", func := "fusee/fuseelaw07.SpringFits", spec := "springFits", unfollowed := true, recurses := true, apart := false }
def SpringFitsSaid : Prop := springFitsRow.holds Try.pinned (OpenSpec.ofChange springFitsSpec)

/-- ITS FALSE NEIGHBOUR: 'it returns false'. Refute it at one input. -/
def springFitsWrong : ChangeSpec := { name := "springFits", fn := fun _ => fun
  | [d1, d2] => { results := [.lit (.bool false)], args := [d1, d2] }
  | _ => none }
def SpringFitsWrongFalsely : Prop := springFitsRow.holds Try.pinned (OpenSpec.ofChange springFitsWrong)

/-- 'fuseelaw07.SpringLeast': WHATEVER THE INPUT: true; the input reads as it did. -/
def springLeastSpec : ChangeSpec := { name := "springLeast", fn := fun _ => fun
  | [d1, d2, d3] => { results := [.lit (.bool true)], args := [d1, d2, d3] }
  | _ => none }
def springLeastRow : OpenClaim := { program := "ytencdmcidhojgaa", sum := "0091b9be7fc6947d93526770b25fdc2178cabcaecac225abfb2fadbc78d20ae0", func := "fusee/fuseelaw07.SpringLeast", spec := "springLeast", unfollowed := true, recurses := true, apart := false }
def SpringLeastSaid : Prop := springLeastRow.holds Try.pinned (OpenSpec.ofChange springLeastSpec)

/-- ITS FALSE NEIGHBOUR: 'it returns false'. Refute it at one input. -/
def springLeastWrong : ChangeSpec := { name := "springLeast", fn := fun _ => fun
  | [d1, d2, d3] => { results := [.lit (.bool false)], args := [d1, d2, d3] }
  | _ => none }
def SpringLeastWrongFalsely : Prop := springLeastRow.holds Try.pinned (OpenSpec.ofChange springLeastWrong)

/-- 'fuseelaw07.SpringMore': WHATEVER THE INPUT: true; the input reads as it did. -/
def springMoreSpec : ChangeSpec := { name := "springMore", fn := fun _ => fun
  | [d1, d2, d3] => { results := [.lit (.bool true)], args := [d1, d2, d3] }
  | _ => none }
def springMoreRow : OpenClaim := { program := "ytencdmcidhojgaa", sum := "0091b9be7fc6947d93526770b25fdc2178cabcaecac225abfb2fadbc78d20ae0", func := "fusee/fuseelaw07.SpringMore", spec := "springMore", unfollowed := true, recurses := true, apart := false }
def SpringMoreSaid : Prop := springMoreRow.holds Try.pinned (OpenSpec.ofChange springMoreSpec)

/-- ITS FALSE NEIGHBOUR: 'it returns false'. Refute it at one input. -/
def springMoreWrong : ChangeSpec := { name := "springMore", fn := fun _ => fun
  | [d1, d2, d3] => { results := [.lit (.bool false)], args := [d1, d2, d3] }
  | _ => none }
def SpringMoreWrongFalsely : Prop := springMoreRow.holds Try.pinned (OpenSpec.ofChange springMoreWrong)

/-- 'fuseelaw07.SpringTurned': WHATEVER THE INPUT: true; the input reads as it did. -/
def springTurnedSpec : ChangeSpec := { name := "springTurned", fn := fun _ => fun
  | [d1, d2] => { results := [.lit (.bool true)], args := [d1, d2] }
  | _ => none }
def springTurnedRow : OpenClaim := { program := "ytencdmcidhojgaa", sum := "0091b9be7fc6947d93526770b25fdc2178cabcaecac225abfb2fadbc78d20ae0", func := "fusee/fuseelaw07.SpringTurned", spec := "springTurned", unfollowed := true, recurses := true, apart := false }
def SpringTurnedSaid : Prop := springTurnedRow.holds Try.pinned (OpenSpec.ofChange springTurnedSpec)

/-- ITS FALSE NEIGHBOUR: 'it returns false'. Refute it at one input. -/
def springTurnedWrong : ChangeSpec := { name := "springTurned", fn := fun _ => fun
  | [d1, d2] => { results := [.lit (.bool false)], args := [d1, d2] }
  | _ => none }
def SpringTurnedWrongFalsely : Prop := springTurnedRow.holds Try.pinned (OpenSpec.ofChange springTurnedWrong)

/- THE SECOND FORM. 'bulk': how many values and letters a reading holds, each counted each time it is reached (what is shared counts as often as it is met; a slice's spare places count too). A statement '..UptoSaid' is the law's where the arguments, and the package variables that the reading takes, are together of bulk at most 1048576: NARROWER than '..Said'. Prove '..Said' where nothing that the law and all that it calls make is longer than what came in: it says more and counts as full. Else prove '..UptoSaid'. A law counts once. -/
mutual
def uptoBulk {H : Type} : DataW H → Nat
  | .lit (.string bytes) => bytes.length + 1
  | .lit _ => 1
  | .nil => 1
  | .ptr d => uptoBulk d + 1
  | .slice elems spare => uptoBulkAll elems + uptoBulkAll spare + 1
  | .agg parts => uptoBulkAll parts + 1
  | .iface _ d => uptoBulk d + 1
  | .map entries => uptoBulkEntries entries + 1
  | .held _ => 1
def uptoBulkAll {H : Type} : List (DataW H) → Nat
  | [] => 0
  | d :: r => uptoBulk d + uptoBulkAll r
def uptoBulkEntries {H : Type} : List (Lit × DataW H) → Nat
  | [] => 0
  | x :: r => uptoBulkEntry x + uptoBulkEntries r
def uptoBulkEntry {H : Type} : Lit × DataW H → Nat
  | (.string bytes, d) => bytes.length + uptoBulk d + 1
  | (_, d) => uptoBulk d + 1
 end
def uptoSmall : (H : Type) → List (DataW H) → Bool := fun _ ds => decide (uptoBulkAll ds ≤ 1048576)
def OpenSpec.upto (s : _root_.Go.ChangeSpec) : _root_.Go.OpenSpec := { _root_.Go.OpenSpec.ofChange s with cond := some uptoSmall }

/-- 'fuseelaw07.SpringTells', WHERE WHAT IT READS IS OF BULK AT MOST 1048576: true; the input reads as it did. -/
def springTellsUptoRow : OpenClaim := { program := "ytencdmcidhojgaa", sum := "0091b9be7fc6947d93526770b25fdc2178cabcaecac225abfb2fadbc78d20ae0", func := "fusee/fuseelaw07.SpringTells", spec := "springTells", unfollowed := true, recurses := true, apart := false, narrowed := true }
def SpringTellsUptoSaid : Prop := springTellsUptoRow.holds Try.pinned (OpenSpec.upto springTellsSpec)

/-- 'fuseelaw07.SpringFits', WHERE WHAT IT READS IS OF BULK AT MOST 1048576: true; the input reads as it did. -/
def springFitsUptoRow : OpenClaim := { program := "ytencdmcidhojgaa", sum := "0091b9be7fc6947d93526770b25fdc2178cabcaecac225abfb2fadbc78d20ae0", func := "fusee/fuseelaw07.SpringFits", spec := "springFits", unfollowed := true, recurses := true, apart := false, narrowed := true }
def SpringFitsUptoSaid : Prop := springFitsUptoRow.holds Try.pinned (OpenSpec.upto springFitsSpec)

/-- 'fuseelaw07.SpringLeast', WHERE WHAT IT READS IS OF BULK AT MOST 1048576: true; the input reads as it did. -/
def springLeastUptoRow : OpenClaim := { program := "ytencdmcidhojgaa", sum := "0091b9be7fc6947d93526770b25fdc2178cabcaecac225abfb2fadbc78d20ae0", func := "fusee/fuseelaw07.SpringLeast", spec := "springLeast", unfollowed := true, recurses := true, apart := false, narrowed := true }
def SpringLeastUptoSaid : Prop := springLeastUptoRow.holds Try.pinned (OpenSpec.upto springLeastSpec)

/-- 'fuseelaw07.SpringMore', WHERE WHAT IT READS IS OF BULK AT MOST 1048576: true; the input reads as it did. -/
def springMoreUptoRow : OpenClaim := { program := "ytencdmcidhojgaa", sum := "0091b9be7fc6947d93526770b25fdc2178cabcaecac225abfb2fadbc78d20ae0", func := "fusee/fuseelaw07.SpringMore", spec := "springMore", unfollowed := true, recurses := true, apart := false, narrowed := true }
def SpringMoreUptoSaid : Prop := springMoreUptoRow.holds Try.pinned (OpenSpec.upto springMoreSpec)

/-- 'fuseelaw07.SpringTurned', WHERE WHAT IT READS IS OF BULK AT MOST 1048576: true; the input reads as it did. -/
def springTurnedUptoRow : OpenClaim := { program := "ytencdmcidhojgaa", sum := "0091b9be7fc6947d93526770b25fdc2178cabcaecac225abfb2fadbc78d20ae0", func := "fusee/fuseelaw07.SpringTurned", spec := "springTurned", unfollowed := true, recurses := true, apart := false, narrowed := true }
def SpringTurnedUptoSaid : Prop := springTurnedUptoRow.holds Try.pinned (OpenSpec.upto springTurnedSpec)

end Rows
end Go.Proofs.Ytencdmcidhojgaa
