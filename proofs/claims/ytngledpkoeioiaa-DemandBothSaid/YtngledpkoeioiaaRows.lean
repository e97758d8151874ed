/-
  No cell of these rows narrows 'for every input' (looked for: loops, veiled, ifaces, maps, wideKeys, modest, calm, conditions, laid).
  DERIVED. THE GIVEN ROWS OF THIS SEAT. 7 by the template 'for every input the law returns true; each argument reads behind the call as it read before'; 0 by the template 'total and deterministic' (their statements: YtngledpkoeioiaaTotals.lean).
  GIVEN WITH THE SEED: the statements are not yours to turn. If you find one false, say at which input.
  Laid BY PROGRAM, IN A SANDBOX (cutbox-rows.mjs): the forced cells as the released guide's own fill.sh prints them over the translation ddab585d70653587… (all of the seat's roots in one cut). By AI agents, Wed Nov 11 2026. No macro, syntax, notation, axiom, sorry.
-/
import Derived.Test.YtngledpkoeioiaaChecked
import GoSem.Claim
import GoSem.ClaimJoined
import GoSem.ClaimMapViews
import Derived.JoinedTies
import Derived.KernelRfl
namespace Go.Proofs.Ytngledpkoeioiaa
/- THE CELL 'sum', in the pinned program and in every row, IS THE sha256 OF THE DUMP (.gsa) THAT YtngledpkoeioiaaProg.lean LOADS. Nothing in Lean hashes anything: it is a label: what it is worth is what the hold of that sum in a sandbox is worth. -/
noncomputable def Try.pinned : Pinned := { name := "ytngledpkoeioiaa", sum := "ddab585d7065358731e42f5ccfcd25a6abf9b62ce0106bf72792404bafe539c1", checked := Try.checked }
namespace Rows
def none {H : Type} : Left H := { results := [], args := [] }

/-- 'fuseelaw09.DemandMore': WHATEVER THE INPUT: true; the input reads as it did. -/
def demandMoreSpec : ChangeSpec := { name := "demandMore", fn := fun _ => fun
  | [d1, d2, d3, d4, d5] => { results := [.lit (.bool true)], args := [d1, d2, d3, d4, d5] }
  | _ => none }
def demandMoreRow : OpenClaim := { program := "ytngledpkoeioiaa", sum := "ddab585d7065358731e42f5ccfcd25a6abf9b62ce0106bf72792404bafe539c1", func := "fusee/fuseelaw09.DemandMore", spec := "demandMore", unfollowed := true, recurses := true, apart := false }
def DemandMoreSaid : Prop := demandMoreRow.holds Try.pinned (OpenSpec.ofChange demandMoreSpec)

/-- ITS FALSE NEIGHBOUR: 'it returns false'. Refute it at one input. -/
def demandMoreWrong : ChangeSpec := { name := "demandMore", fn := fun _ => fun
  | [d1, d2, d3, d4, d5] => { results := [.lit (.bool false)], args := [d1, d2, d3, d4, d5] }
  | _ => none }
def DemandMoreWrongFalsely : Prop := demandMoreRow.holds Try.pinned (OpenSpec.ofChange demandMoreWrong)

/-- 'fuseelaw09.DemandSteps': WHATEVER THE INPUT: true; the input reads as it did. -/
def demandStepsSpec : ChangeSpec := { name := "demandSteps", fn := fun _ => fun
  | [d1, d2] => { results := [.lit (.bool true)], args := [d1, d2] }
  | _ => none }
def demandStepsRow : OpenClaim := { program := "ytngledpkoeioiaa", sum := "ddab585d7065358731e42f5ccfcd25a6abf9b62ce0106bf72792404bafe539c1", func := "fusee/fuseelaw09.DemandSteps", spec := "demandSteps", unfollowed := true, recurses := true, apart := false }
def DemandStepsSaid : Prop := demandStepsRow.holds Try.pinned (OpenSpec.ofChange demandStepsSpec)

/-- ITS FALSE NEIGHBOUR: 'it returns false'. Refute it at one input. -/
def demandStepsWrong : ChangeSpec := { name := "demandSteps", fn := fun _ => fun
  | [d1, d2] => { results := [.lit (.bool false)], args := [d1, d2] }
  | _ => none }
def DemandStepsWrongFalsely : Prop := demandStepsRow.holds Try.pinned (OpenSpec.ofChange demandStepsWrong)

/-- 'fuseelaw09.DemandLess': WHATEVER THE INPUT: true; the input reads as it did. -/
def demandLessSpec : ChangeSpec := { name := "demandLess", fn := fun _ => fun
  | [d1, d2, d3] => { results := [.lit (.bool true)], args := [d1, d2, d3] }
  | _ => none }
def demandLessRow : OpenClaim := { program := "ytngledpkoeioiaa", sum := "ddab585d7065358731e42f5ccfcd25a6abf9b62ce0106bf72792404bafe539c1", func := "fusee/fuseelaw09.DemandLess", spec := "demandLess", unfollowed := true, recurses := true, apart := false }
def DemandLessSaid : Prop := demandLessRow.holds Try.pinned (OpenSpec.ofChange demandLessSpec)

/-- ITS FALSE NEIGHBOUR: 'it returns false'. Refute it at one input. -/
def demandLessWrong : ChangeSpec := { name := "demandLess", fn := fun _ => fun
  | [d1, d2, d3] => { results := [.lit (.bool false)], args := [d1, d2, d3] }
  | _ => none }
def DemandLessWrongFalsely : Prop := demandLessRow.holds Try.pinned (OpenSpec.ofChange demandLessWrong)

/-- 'fuseelaw09.DemandBoth': WHATEVER THE INPUT: true; the input reads as it did. -/
def demandBothSpec : ChangeSpec := { name := "demandBoth", fn := fun _ => fun
  | [d1, d2, d3] => { results := [.lit (.bool true)], args := [d1, d2, d3] }
  | _ => none }
def demandBothRow : OpenClaim := { program := "ytngledpkoeioiaa", sum := "ddab585d7065358731e42f5ccfcd25a6abf9b62ce0106bf72792404bafe539c1", func := "fusee/fuseelaw09.DemandBoth", spec := "demandBoth", unfollowed := true, recurses := true, apart := false }
def DemandBothSaid : Prop := demandBothRow.holds Try.pinned (OpenSpec.ofChange demandBothSpec)

/-- ITS FALSE NEIGHBOUR: 'it returns false'. Refute it at one input. -/
def demandBothWrong : ChangeSpec := { name := "demandBoth", fn := fun _ => fun
  | [d1, d2, d3] => { results := [.lit (.bool false)], args := [d1, d2, d3] }
  | _ => none }
def DemandBothWrongFalsely : Prop := demandBothRow.holds Try.pinned (OpenSpec.ofChange demandBothWrong)

/-- 'fuseelaw09.DemandTells': WHATEVER THE INPUT: true; the input reads as it did. -/
def demandTellsSpec : ChangeSpec := { name := "demandTells", fn := fun _ => fun
  | [d1, d2, d3] => { results := [.lit (.bool true)], args := [d1, d2, d3] }
  | _ => none }
def demandTellsRow : OpenClaim := { program := "ytngledpkoeioiaa", sum := "ddab585d7065358731e42f5ccfcd25a6abf9b62ce0106bf72792404bafe539c1", func := "fusee/fuseelaw09.DemandTells", spec := "demandTells", unfollowed := true, recurses := true, apart := false }
def DemandTellsSaid : Prop := demandTellsRow.holds Try.pinned (OpenSpec.ofChange demandTellsSpec)

/-- ITS FALSE NEIGHBOUR: 'it returns false'. Refute it at one input. -/
def demandTellsWrong : ChangeSpec := { name := "demandTells", fn := fun _ => fun
  | [d1, d2, d3] => { results := [.lit (.bool false)], args := [d1, d2, d3] }
  | _ => none }
def DemandTellsWrongFalsely : Prop := demandTellsRow.holds Try.pinned (OpenSpec.ofChange demandTellsWrong)

/-- 'fuseelaw09.DemandAll': WHATEVER THE INPUT: true; the input reads as it did. -/
def demandAllSpec : ChangeSpec := { name := "demandAll", fn := fun _ => fun
  | [d1, d2] => { results := [.lit (.bool true)], args := [d1, d2] }
  | _ => none }
def demandAllRow : OpenClaim := { program := "ytngledpkoeioiaa", sum := "ddab585d7065358731e42f5ccfcd25a6abf9b62ce0106bf72792404bafe539c1", func := "fusee/fuseelaw09.DemandAll", spec := "demandAll", unfollowed := true, recurses := true, apart := false }
def DemandAllSaid : Prop := demandAllRow.holds Try.pinned (OpenSpec.ofChange demandAllSpec)

/-- ITS FALSE NEIGHBOUR: 'it returns false'. Refute it at one input. -/
def demandAllWrong : ChangeSpec := { name := "demandAll", fn := fun _ => fun
  | [d1, d2] => { results := [.lit (.bool false)], args := [d1, d2] }
  | _ => none }
def DemandAllWrongFalsely : Prop := demandAllRow.holds Try.pinned (OpenSpec.ofChange demandAllWrong)

/-- 'fuseelaw09.DemandWindow': WHATEVER THE INPUT: true; the input reads as it did. -/
def demandWindowSpec : ChangeSpec := { name := "demandWindow", fn := fun _ => fun
  | [d1, d2, d3, d4] => { results := [.lit (.bool true)], args := [d1, d2, d3, d4] }
  | _ => none }
def demandWindowRow : OpenClaim := { program := "ytngledpkoeioiaa", sum := "ddab585d7065358731e42f5ccfcd25a6abf9b62ce0106bf72792404bafe539c1", func := "fusee/fuseelaw09.DemandWindow", spec := "demandWindow", unfollowed := true, recurses := true, apart := false }
def DemandWindowSaid : Prop := demandWindowRow.holds Try.pinned (OpenSpec.ofChange demandWindowSpec)

/-- ITS FALSE NEIGHBOUR: 'it returns false'. Refute it at one input. -/
def demandWindowWrong : ChangeSpec := { name := "demandWindow", fn := fun _ => fun
  | [d1, d2, d3, d4] => { results := [.lit (.bool false)], args := [d1, d2, d3, d4] }
  | _ => none }
def DemandWindowWrongFalsely : Prop := demandWindowRow.holds Try.pinned (OpenSpec.ofChange demandWindowWrong)

/- THE SECOND FORM. 'bulk': how many values and letters a reading holds, each counted each time it is reached (what is shared counts as often as it is met; a slice's spare places count too). A statement '..UptoSaid' is the law's where the arguments, and the package variables that the reading takes, are together of bulk at most 1048576: NARROWER than '..Said'. Prove '..Said' where nothing that the law and all that it calls make is longer than what came in: it says more and counts as full. Else prove '..UptoSaid'. A law counts once. -/
mutual
def uptoBulk {H : Type} : DataW H → Nat
  | .lit (.string bytes) => bytes.length + 1
  | .lit _ => 1
  | .nil => 1
  | .ptr d => uptoBulk d + 1
  | .slice elems spare => uptoBulkAll elems + uptoBulkAll spare + 1
  | .agg parts => uptoBulkAll parts + 1
  | .iface _ d => uptoBulk d + 1
  | .map entries => uptoBulkEntries entries + 1
  | .held _ => 1
def uptoBulkAll {H : Type} : List (DataW H) → Nat
  | [] => 0
  | d :: r => uptoBulk d + uptoBulkAll r
def uptoBulkEntries {H : Type} : List (Lit × DataW H) → Nat
  | [] => 0
  | x :: r => uptoBulkEntry x + uptoBulkEntries r
def uptoBulkEntry {H : Type} : Lit × DataW H → Nat
  | (.string bytes, d) => bytes.length + uptoBulk d + 1
  | (_, d) => uptoBulk d + 1
 end
def uptoSmall : (H : Type) → List (DataW H) → Bool := fun _ ds => decide (uptoBulkAll ds ≤ 1048576)
def OpenSpec.upto (s : _root_.Go.ChangeSpec) : _root_.Go.OpenSpec := { _root_.Go.OpenSpec.ofChange s with cond := some uptoSmall }

/-- 'fuseelaw09.DemandMore', WHERE WHAT IT READS IS OF BULK AT MOST 1048576: true; the input reads as it did. -/
def demandMoreUptoRow : OpenClaim := { program := "ytngledpkoeioiaa", sum := "ddab585d7065358731e42f5ccfcd25a6abf9b62ce0106bf72792404bafe539c1", func := "fusee/fuseelaw09.DemandMore", spec := "demandMore", unfollowed := true, recurses := true, apart := false, narrowed := true }
def DemandMoreUptoSaid : Prop := demandMoreUptoRow.holds Try.pinned (OpenSpec.upto demandMoreSpec)

/-- 'fuseelaw09.DemandSteps', WHERE WHAT IT READS IS OF BULK AT MOST 1048576: true; the input reads as it did. -/
def demandStepsUptoRow : OpenClaim := { program := "ytngledpkoeioiaa", sum := "ddab585d7065358731e42f5ccfcd25a6abf9b62ce0106bf72792404bafe539c1", func := "fusee/fuseelaw09.DemandSteps", spec := "demandSteps", unfollowed := true, recurses := true, apart := false, narrowed := true }
def DemandStepsUptoSaid : Prop := demandStepsUptoRow.holds Try.pinned (OpenSpec.upto demandStepsSpec)

/-- 'fuseelaw09.DemandLess', WHERE WHAT IT READS IS OF BULK AT MOST 1048576: true; the input reads as it did. -/
def demandLessUptoRow : OpenClaim := { program := "ytngledpkoeioiaa", sum := "ddab585d7065358731e42f5ccfcd25a6abf9b62ce0106bf72792404bafe539c1", func := "fusee/fuseelaw09.DemandLess", spec := "demandLess", unfollowed := true, recurses := true, apart := false, narrowed := true }
def DemandLessUptoSaid : Prop := demandLessUptoRow.holds Try.pinned (OpenSpec.upto demandLessSpec)

/-- 'fuseelaw09.DemandBoth', WHERE WHAT IT READS IS OF BULK AT MOST 1048576: true; the input reads as it did. -/
def demandBothUptoRow : OpenClaim := { program := "ytngledpkoeioiaa", sum := "ddab585d7065358731e42f5ccfcd25a6abf9b62ce0106bf72792404bafe539c1", func := "fusee/fuseelaw09.DemandBoth", spec := "demandBoth", unfollowed := true, recurses := true, apart := false, narrowed := true }
def DemandBothUptoSaid : Prop := demandBothUptoRow.holds Try.pinned (OpenSpec.upto demandBothSpec)

/-- 'fuseelaw09.DemandTells', WHERE WHAT IT READS IS OF BULK AT MOST 1048576: true; the input reads as it did. -/
def demandTellsUptoRow : OpenClaim := { program := "ytngledpkoeioiaa", sum := "ddab585d7065358731e42f5ccfcd25a6abf9b62ce0106bf72792404bafe539c1", func := "fusee/fuseelaw09.DemandTells", spec := "demandTells", unfollowed := true, recurses := true, apart := false, narrowed := true }
def DemandTellsUptoSaid : Prop := demandTellsUptoRow.holds Try.pinned (OpenSpec.upto demandTellsSpec)

/-- 'fuseelaw09.DemandAll', WHERE WHAT IT READS IS OF BULK AT MOST 1048576: true; the input reads as it did. -/
def demandAllUptoRow : OpenClaim := { program := "ytngledpkoeioiaa", sum := "ddab585d7065358731e42f5ccfcd25a6abf9b62ce0106bf72792404bafe539c1", func := "fusee/fuseelaw09.DemandAll", spec := "demandAll", unfollowed := true, recurses := true, apart := false, narrowed := true }
def DemandAllUptoSaid : Prop := demandAllUptoRow.holds Try.pinned (OpenSpec.upto demandAllSpec)

/-- 'fuseelaw09.DemandWindow', WHERE WHAT IT READS IS OF BULK AT MOST 1048576: true; the input reads as it did. -/
def demandWindowUptoRow : OpenClaim := { program := "ytngledpkoeioiaa", sum := "ddab585d7065358731e42f5ccfcd25a6abf9b62ce0106bf72792404bafe539c1", func := "fusee/fuseelaw09.DemandWindow", spec := "demandWindow", unfollowed := true, recurses := true, apart := false, narrowed := true }
def DemandWindowUptoSaid : Prop := demandWindowUptoRow.holds Try.pinned (OpenSpec.upto demandWindowSpec)

end Rows
end Go.Proofs.Ytngledpkoeioiaa
