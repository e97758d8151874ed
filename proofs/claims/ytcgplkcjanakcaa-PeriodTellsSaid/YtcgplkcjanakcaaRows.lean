/-
  No cell of these rows narrows 'for every input' (looked for: loops, veiled, ifaces, maps, wideKeys, modest, calm, conditions, laid).
  DERIVED. THE GIVEN ROWS OF THIS SEAT. 5 by the template 'for every input the law returns true; each argument reads behind the call as it read before'; 0 by the template 'total and deterministic' (their statements: YtcgplkcjanakcaaTotals.lean).
  GIVEN WITH THE SEED: the statements are not yours to turn. If you find one false, say at which input.
  Laid BY PROGRAM, IN A SANDBOX (cutbox-rows.mjs): the forced cells as the released guide's own fill.sh prints them over the translation 9a2353c60aa9cda8… (all of the seat's roots in one cut). By AI agents, Wed Nov 11 2026. No macro, syntax, notation, axiom, sorry.
-/
import Derived.Test.YtcgplkcjanakcaaChecked
import GoSem.Claim
import GoSem.ClaimJoined
import GoSem.ClaimMapViews
import Derived.JoinedTies
import Derived.KernelRfl
namespace Go.Proofs.Ytcgplkcjanakcaa
/- THE CELL 'sum', in the pinned program and in every row, IS THE sha256 OF THE DUMP (.gsa) THAT YtcgplkcjanakcaaProg.lean LOADS. Nothing in Lean hashes anything: it is a label: what it is worth is what the hold of that sum in a sandbox is worth. -/
noncomputable def Try.pinned : Pinned := { name := "ytcgplkcjanakcaa", sum := "9a2353c60aa9cda841df7e36dc293058333a5268e00926399507870163c299f9", checked := Try.checked }
namespace Rows
def none {H : Type} : Left H := { results := [], args := [] }

/-- 'fuseelaw08.PeriodTells': WHATEVER THE INPUT: true; the input reads as it did. -/
def periodTellsSpec : ChangeSpec := { name := "periodTells", fn := fun _ => fun
  | [d1, d2, d3, d4, d5] => { results := [.lit (.bool true)], args := [d1, d2, d3, d4, d5] }
  | _ => none }
def periodTellsRow : OpenClaim := { program := "ytcgplkcjanakcaa", sum := "9a2353c60aa9cda841df7e36dc293058333a5268e00926399507870163c299f9", func := "fusee/fuseelaw08.PeriodTells", spec := "periodTells", unfollowed := true, recurses := true, apart := false }
def PeriodTellsSaid : Prop := periodTellsRow.holds Try.pinned (OpenSpec.ofChange periodTellsSpec)

/-- ITS FALSE NEIGHBOUR: 'it returns false'. Refute it at one input. -/
def periodTellsWrong : ChangeSpec := { name := "periodTells", fn := fun _ => fun
  | [d1, d2, d3, d4, d5] => { results := [.lit (.bool false)], args := [d1, d2, d3, d4, d5] }
  | _ => none }
def PeriodTellsWrongFalsely : Prop := periodTellsRow.holds Try.pinned (OpenSpec.ofChange periodTellsWrong)

/-- 'fuseelaw08.PeriodMore': WHATEVER THE INPUT: true; the input reads as it did. -/
def periodMoreSpec : ChangeSpec := { name := "periodMore", fn := fun _ => fun
  | [d1, d2, d3, d4] => { results := [.lit (.bool true)], args := [d1, d2, d3, d4] }
  | _ => none }
def periodMoreRow : OpenClaim := { program := "ytcgplkcjanakcaa", sum := "9a2353c60aa9cda841df7e36dc293058333a5268e00926399507870163c299f9", func := "fusee/fuseelaw08.PeriodMore", spec := "periodMore", unfollowed := true, recurses := true, apart := false }
def PeriodMoreSaid : Prop := periodMoreRow.holds Try.pinned (OpenSpec.ofChange periodMoreSpec)

/-- ITS FALSE NEIGHBOUR: 'it returns false'. Refute it at one input. -/
def periodMoreWrong : ChangeSpec := { name := "periodMore", fn := fun _ => fun
  | [d1, d2, d3, d4] => { results := [.lit (.bool false)], args := [d1, d2, d3, d4] }
  | _ => none }
def PeriodMoreWrongFalsely : Prop := periodMoreRow.holds Try.pinned (OpenSpec.ofChange periodMoreWrong)

/-- 'fuseelaw08.PeriodEnds': WHATEVER THE INPUT: true; the input reads as it did. -/
def periodEndsSpec : ChangeSpec := { name := "periodEnds", fn := fun _ => fun
  | [d1, d2, d3, d4] => { results := [.lit (.bool true)], args := [d1, d2, d3, d4] }
  | _ => none }
def periodEndsRow : OpenClaim := { program := "ytcgplkcjanakcaa", sum := "9a2353c60aa9cda841df7e36dc293058333a5268e00926399507870163c299f9", func := "fusee/fuseelaw08.PeriodEnds", spec := "periodEnds", unfollowed := true, recurses := true, apart := false }
def PeriodEndsSaid : Prop := periodEndsRow.holds Try.pinned (OpenSpec.ofChange periodEndsSpec)

/-- ITS FALSE NEIGHBOUR: 'it returns false'. Refute it at one input. -/
def periodEndsWrong : ChangeSpec := { name := "periodEnds", fn := fun _ => fun
  | [d1, d2, d3, d4] => { results := [.lit (.bool false)], args := [d1, d2, d3, d4] }
  | _ => none }
def PeriodEndsWrongFalsely : Prop := periodEndsRow.holds Try.pinned (OpenSpec.ofChange periodEndsWrong)

/-- 'fuseelaw08.PeriodTwo': WHATEVER THE INPUT: true; the input reads as it did. -/
def periodTwoSpec : ChangeSpec := { name := "periodTwo", fn := fun _ => fun
  | [d1, d2, d3, d4, d5] => { results := [.lit (.bool true)], args := [d1, d2, d3, d4, d5] }
  | _ => none }
def periodTwoRow : OpenClaim := { program := "ytcgplkcjanakcaa", sum := "9a2353c60aa9cda841df7e36dc293058333a5268e00926399507870163c299f9", func := "fusee/fuseelaw08.PeriodTwo", spec := "periodTwo", unfollowed := true, recurses := true, apart := false }
def PeriodTwoSaid : Prop := periodTwoRow.holds Try.pinned (OpenSpec.ofChange periodTwoSpec)

/-- ITS FALSE NEIGHBOUR: 'it returns false'. Refute it at one input. -/
def periodTwoWrong : ChangeSpec := { name := "periodTwo", fn := fun _ => fun
  | [d1, d2, d3, d4, d5] => { results := [.lit (.bool false)], args := [d1, d2, d3, d4, d5] }
  | _ => none }
def PeriodTwoWrongFalsely : Prop := periodTwoRow.holds Try.pinned (OpenSpec.ofChange periodTwoWrong)

/-- 'fuseelaw08.PeriodUnits': WHATEVER THE INPUT: true; the input reads as it did. -/
def periodUnitsSpec : ChangeSpec := { name := "periodUnits", fn := fun _ => fun
  | [d1, d2] => { results := [.lit (.bool true)], args := [d1, d2] }
  | _ => none }
def periodUnitsRow : OpenClaim := { program := "ytcgplkcjanakcaa", sum := "9a2353c60aa9cda841df7e36dc293058333a5268e00926399507870163c299f9", func := "fusee/fuseelaw08.PeriodUnits", spec := "periodUnits", unfollowed := true, recurses := true, apart := false }
def PeriodUnitsSaid : Prop := periodUnitsRow.holds Try.pinned (OpenSpec.ofChange periodUnitsSpec)

/-- ITS FALSE NEIGHBOUR: 'it returns false'. Refute it at one input. -/
def periodUnitsWrong : ChangeSpec := { name := "periodUnits", fn := fun _ => fun
  | [d1, d2] => { results := [.lit (.bool false)], args := [d1, d2] }
  | _ => none }
def PeriodUnitsWrongFalsely : Prop := periodUnitsRow.holds Try.pinned (OpenSpec.ofChange periodUnitsWrong)

/- THE SECOND FORM. 'bulk': how many values and letters a reading holds, each counted each time it is reached (what is shared counts as often as it is met; a slice's spare places count too). A statement '..UptoSaid' is the law's where the arguments, and the package variables that the reading takes, are together of bulk at most 1048576: NARROWER than '..Said'. Prove '..Said' where nothing that the law and all that it calls make is longer than what came in: it says more and counts as full. Else prove '..UptoSaid'. A law counts once. -/
mutual
def uptoBulk {H : Type} : DataW H → Nat
  | .lit (.string bytes) => bytes.length + 1
  | .lit _ => 1
  | .nil => 1
  | .ptr d => uptoBulk d + 1
  | .slice elems spare => uptoBulkAll elems + uptoBulkAll spare + 1
  | .agg parts => uptoBulkAll parts + 1
  | .iface _ d => uptoBulk d + 1
  | .map entries => uptoBulkEntries entries + 1
  | .held _ => 1
def uptoBulkAll {H : Type} : List (DataW H) → Nat
  | [] => 0
  | d :: r => uptoBulk d + uptoBulkAll r
def uptoBulkEntries {H : Type} : List (Lit × DataW H) → Nat
  | [] => 0
  | x :: r => uptoBulkEntry x + uptoBulkEntries r
def uptoBulkEntry {H : Type} : Lit × DataW H → Nat
  | (.string bytes, d) => bytes.length + uptoBulk d + 1
  | (_, d) => uptoBulk d + 1
 end
def uptoSmall : (H : Type) → List (DataW H) → Bool := fun _ ds => decide (uptoBulkAll ds ≤ 1048576)
def OpenSpec.upto (s : _root_.Go.ChangeSpec) : _root_.Go.OpenSpec := { _root_.Go.OpenSpec.ofChange s with cond := some uptoSmall }

/-- 'fuseelaw08.PeriodTells', WHERE WHAT IT READS IS OF BULK AT MOST 1048576: true; the input reads as it did. -/
def periodTellsUptoRow : OpenClaim := { program := "ytcgplkcjanakcaa", sum := "9a2353c60aa9cda841df7e36dc293058333a5268e00926399507870163c299f9", func := "fusee/fuseelaw08.PeriodTells", spec := "periodTells", unfollowed := true, recurses := true, apart := false, narrowed := true }
def PeriodTellsUptoSaid : Prop := periodTellsUptoRow.holds Try.pinned (OpenSpec.upto periodTellsSpec)

/-- 'fuseelaw08.PeriodMore', WHERE WHAT IT READS IS OF BULK AT MOST 1048576: true; the input reads as it did. -/
def periodMoreUptoRow : OpenClaim := { program := "ytcgplkcjanakcaa", sum := "9a2353c60aa9cda841df7e36dc293058333a5268e00926399507870163c299f9", func := "fusee/fuseelaw08.PeriodMore", spec := "periodMore", unfollowed := true, recurses := true, apart := false, narrowed := true }
def PeriodMoreUptoSaid : Prop := periodMoreUptoRow.holds Try.pinned (OpenSpec.upto periodMoreSpec)

/-- 'fuseelaw08.PeriodEnds', WHERE WHAT IT READS IS OF BULK AT MOST 1048576: true; the input reads as it did. -/
def periodEndsUptoRow : OpenClaim := { program := "ytcgplkcjanakcaa", sum := "9a2353c60aa9cda841df7e36dc293058333a5268e00926399507870163c299f9", func := "fusee/fuseelaw08.PeriodEnds", spec := "periodEnds", unfollowed := true, recurses := true, apart := false, narrowed := true }
def PeriodEndsUptoSaid : Prop := periodEndsUptoRow.holds Try.pinned (OpenSpec.upto periodEndsSpec)

/-- 'fuseelaw08.PeriodTwo', WHERE WHAT IT READS IS OF BULK AT MOST 1048576: true; the input reads as it did. -/
def periodTwoUptoRow : OpenClaim := { program := "ytcgplkcjanakcaa", sum := "9a2353c60aa9cda841df7e36dc293058333a5268e00926399507870163c299f9", func := "fusee/fuseelaw08.PeriodTwo", spec := "periodTwo", unfollowed := true, recurses := true, apart := false, narrowed := true }
def PeriodTwoUptoSaid : Prop := periodTwoUptoRow.holds Try.pinned (OpenSpec.upto periodTwoSpec)

/-- 'fuseelaw08.PeriodUnits', WHERE WHAT IT READS IS OF BULK AT MOST 1048576: true; the input reads as it did. -/
def periodUnitsUptoRow : OpenClaim := { program := "ytcgplkcjanakcaa", sum := "9a2353c60aa9cda841df7e36dc293058333a5268e00926399507870163c299f9", func := "fusee/fuseelaw08.PeriodUnits", spec := "periodUnits", unfollowed := true, recurses := true, apart := false, narrowed := true }
def PeriodUnitsUptoSaid : Prop := periodUnitsUptoRow.holds Try.pinned (OpenSpec.upto periodUnitsSpec)

end Rows
end Go.Proofs.Ytcgplkcjanakcaa
