/-
  No cell of these rows narrows 'for every input' (looked for: loops, veiled, ifaces, maps, wideKeys, modest, calm, conditions, laid).
  DERIVED. THE GIVEN ROWS OF THIS SEAT. 8 by the template 'for every input the law returns true; each argument reads behind the call as it read before'; 0 by the template 'total and deterministic' (their statements: YtdhedkeeccofgaaTotals.lean).
  GIVEN WITH THE SEED: the statements are not yours to turn. If you find one false, say at which input.
  Laid BY PROGRAM, IN A SANDBOX (cutbox-rows.mjs): the forced cells as the released guide's own fill.sh prints them over the translation 3fc8dedd2ef54401… (all of the seat's roots in one cut). By AI agents, Wed Nov 11 2026. No macro, syntax, notation, axiom, sorry.
-/
import Derived.Test.YtdhedkeeccofgaaChecked
import GoSem.Claim
import GoSem.ClaimJoined
import GoSem.ClaimMapViews
import Derived.JoinedTies
import Derived.KernelRfl
namespace Go.Proofs.Ytdhedkeeccofgaa
/- THE CELL 'sum', in the pinned program and in every row, IS THE sha256 OF THE DUMP (.gsa) THAT YtdhedkeeccofgaaProg.lean LOADS. Nothing in Lean hashes anything: it is a label: what it is worth is what the hold of that sum in a sandbox is worth. -/
noncomputable def Try.pinned : Pinned := { name := "ytdhedkeeccofgaa", sum := "3fc8dedd2ef54401665765d5ffb4ffa1f564713c2118417daada6b5c53d083e2", checked := Try.checked }
namespace Rows
def none {H : Type} : Left H := { results := [], args := [] }

/-- 'fuseelaw01.FracCeil': WHATEVER THE INPUT: true; the input reads as it did. -/
def fracCeilSpec : ChangeSpec := { name := "fracCeil", fn := fun _ => fun
  | [d1, d2] => { results := [.lit (.bool true)], args := [d1, d2] }
  | _ => none }
def fracCeilRow : OpenClaim := { program := "ytdhedkeeccofgaa", sum := "3fc8dedd2ef54401665765d5ffb4ffa1f564713c2118417daada6b5c53d083e2", func := "fusee/fuseelaw01.FracCeil", spec := "fracCeil", unfollowed := true, recurses := true, apart := false }
def FracCeilSaid : Prop := fracCeilRow.holds Try.pinned (OpenSpec.ofChange fracCeilSpec)

/-- ITS FALSE NEIGHBOUR: 'it returns false'. Refute it at one input. -/
def fracCeilWrong : ChangeSpec := { name := "fracCeil", fn := fun _ => fun
  | [d1, d2] => { results := [.lit (.bool false)], args := [d1, d2] }
  | _ => none }
def FracCeilWrongFalsely : Prop := fracCeilRow.holds Try.pinned (OpenSpec.ofChange fracCeilWrong)

/-- 'fuseelaw01.FracBeats': WHATEVER THE INPUT: true; the input reads as it did. -/
def fracBeatsSpec : ChangeSpec := { name := "fracBeats", fn := fun _ => fun
  | [d1, d2, d3, d4, d5] => { results := [.lit (.bool true)], args := [d1, d2, d3, d4, d5] }
  | _ => none }
def fracBeatsRow : OpenClaim := { program := "ytdhedkeeccofgaa", sum := "3fc8dedd2ef54401665765d5ffb4ffa1f564713c2118417daada6b5c53d083e2", func := "fusee/fuseelaw01.FracBeats", spec := "fracBeats", unfollowed := true, recurses := true, apart := false }
def FracBeatsSaid : Prop := fracBeatsRow.holds Try.pinned (OpenSpec.ofChange fracBeatsSpec)

/-- ITS FALSE NEIGHBOUR: 'it returns false'. Refute it at one input. -/
def fracBeatsWrong : ChangeSpec := { name := "fracBeats", fn := fun _ => fun
  | [d1, d2, d3, d4, d5] => { results := [.lit (.bool false)], args := [d1, d2, d3, d4, d5] }
  | _ => none }
def FracBeatsWrongFalsely : Prop := fracBeatsRow.holds Try.pinned (OpenSpec.ofChange fracBeatsWrong)

/-- 'fuseelaw01.FracRoot': WHATEVER THE INPUT: true; the input reads as it did. -/
def fracRootSpec : ChangeSpec := { name := "fracRoot", fn := fun _ => fun
  | [d] => { results := [.lit (.bool true)], args := [d] }
  | _ => none }
def fracRootRow : OpenClaim := { program := "ytdhedkeeccofgaa", sum := "3fc8dedd2ef54401665765d5ffb4ffa1f564713c2118417daada6b5c53d083e2", func := "fusee/fuseelaw01.FracRoot", spec := "fracRoot", unfollowed := true, recurses := true, apart := false }
def FracRootSaid : Prop := fracRootRow.holds Try.pinned (OpenSpec.ofChange fracRootSpec)

/-- ITS FALSE NEIGHBOUR: 'it returns false'. Refute it at one input. -/
def fracRootWrong : ChangeSpec := { name := "fracRoot", fn := fun _ => fun
  | [d] => { results := [.lit (.bool false)], args := [d] }
  | _ => none }
def FracRootWrongFalsely : Prop := fracRootRow.holds Try.pinned (OpenSpec.ofChange fracRootWrong)

/-- 'fuseelaw01.FracGrow': WHATEVER THE INPUT: true; the input reads as it did. -/
def fracGrowSpec : ChangeSpec := { name := "fracGrow", fn := fun _ => fun
  | [d1, d2, d3, d4] => { results := [.lit (.bool true)], args := [d1, d2, d3, d4] }
  | _ => none }
def fracGrowRow : OpenClaim := { program := "ytdhedkeeccofgaa", sum := "3fc8dedd2ef54401665765d5ffb4ffa1f564713c2118417daada6b5c53d083e2", func := "fusee/fuseelaw01.FracGrow", spec := "fracGrow", unfollowed := true, recurses := true, apart := false }
def FracGrowSaid : Prop := fracGrowRow.holds Try.pinned (OpenSpec.ofChange fracGrowSpec)

/-- ITS FALSE NEIGHBOUR: 'it returns false'. Refute it at one input. -/
def fracGrowWrong : ChangeSpec := { name := "fracGrow", fn := fun _ => fun
  | [d1, d2, d3, d4] => { results := [.lit (.bool false)], args := [d1, d2, d3, d4] }
  | _ => none }
def FracGrowWrongFalsely : Prop := fracGrowRow.holds Try.pinned (OpenSpec.ofChange fracGrowWrong)

/-- 'fuseelaw01.FracWhole': WHATEVER THE INPUT: true; the input reads as it did. -/
def fracWholeSpec : ChangeSpec := { name := "fracWhole", fn := fun _ => fun
  | [d1, d2] => { results := [.lit (.bool true)], args := [d1, d2] }
  | _ => none }
def fracWholeRow : OpenClaim := { program := "ytdhedkeeccofgaa", sum := "3fc8dedd2ef54401665765d5ffb4ffa1f564713c2118417daada6b5c53d083e2", func := "fusee/fuseelaw01.FracWhole", spec := "fracWhole", unfollowed := true, recurses := true, apart := false }
def FracWholeSaid : Prop := fracWholeRow.holds Try.pinned (OpenSpec.ofChange fracWholeSpec)

/-- ITS FALSE NEIGHBOUR: 'it returns false'. Refute it at one input. -/
def fracWholeWrong : ChangeSpec := { name := "fracWhole", fn := fun _ => fun
  | [d1, d2] => { results := [.lit (.bool false)], args := [d1, d2] }
  | _ => none }
def FracWholeWrongFalsely : Prop := fracWholeRow.holds Try.pinned (OpenSpec.ofChange fracWholeWrong)

/-- 'fuseelaw01.FracOrder': WHATEVER THE INPUT: true; the input reads as it did. -/
def fracOrderSpec : ChangeSpec := { name := "fracOrder", fn := fun _ => fun
  | [d1, d2, d3, d4, d5, d6] => { results := [.lit (.bool true)], args := [d1, d2, d3, d4, d5, d6] }
  | _ => none }
def fracOrderRow : OpenClaim := { program := "ytdhedkeeccofgaa", sum := "3fc8dedd2ef54401665765d5ffb4ffa1f564713c2118417daada6b5c53d083e2", func := "fusee/fuseelaw01.FracOrder", spec := "fracOrder", unfollowed := true, recurses := true, apart := false }
def FracOrderSaid : Prop := fracOrderRow.holds Try.pinned (OpenSpec.ofChange fracOrderSpec)

/-- ITS FALSE NEIGHBOUR: 'it returns false'. Refute it at one input. -/
def fracOrderWrong : ChangeSpec := { name := "fracOrder", fn := fun _ => fun
  | [d1, d2, d3, d4, d5, d6] => { results := [.lit (.bool false)], args := [d1, d2, d3, d4, d5, d6] }
  | _ => none }
def FracOrderWrongFalsely : Prop := fracOrderRow.holds Try.pinned (OpenSpec.ofChange fracOrderWrong)

/-- 'fuseelaw01.FracScale': WHATEVER THE INPUT: true; the input reads as it did. -/
def fracScaleSpec : ChangeSpec := { name := "fracScale", fn := fun _ => fun
  | [d1, d2, d3, d4, d5] => { results := [.lit (.bool true)], args := [d1, d2, d3, d4, d5] }
  | _ => none }
def fracScaleRow : OpenClaim := { program := "ytdhedkeeccofgaa", sum := "3fc8dedd2ef54401665765d5ffb4ffa1f564713c2118417daada6b5c53d083e2", func := "fusee/fuseelaw01.FracScale", spec := "fracScale", unfollowed := true, recurses := true, apart := false }
def FracScaleSaid : Prop := fracScaleRow.holds Try.pinned (OpenSpec.ofChange fracScaleSpec)

/-- ITS FALSE NEIGHBOUR: 'it returns false'. Refute it at one input. -/
def fracScaleWrong : ChangeSpec := { name := "fracScale", fn := fun _ => fun
  | [d1, d2, d3, d4, d5] => { results := [.lit (.bool false)], args := [d1, d2, d3, d4, d5] }
  | _ => none }
def FracScaleWrongFalsely : Prop := fracScaleRow.holds Try.pinned (OpenSpec.ofChange fracScaleWrong)

/-- 'fuseelaw01.FracTells': WHATEVER THE INPUT: true; the input reads as it did. -/
def fracTellsSpec : ChangeSpec := { name := "fracTells", fn := fun _ => fun
  | [d1, d2, d3, d4] => { results := [.lit (.bool true)], args := [d1, d2, d3, d4] }
  | _ => none }
def fracTellsRow : OpenClaim := { program := "ytdhedkeeccofgaa", sum := "3fc8dedd2ef54401665765d5ffb4ffa1f564713c2118417daada6b5c53d083e2", func := "fusee/fuseelaw01.FracTells", spec := "fracTells", unfollowed := true, recurses := true, apart := false }
def FracTellsSaid : Prop := fracTellsRow.holds Try.pinned (OpenSpec.ofChange fracTellsSpec)

/-- ITS FALSE NEIGHBOUR: 'it returns false'. Refute it at one input. -/
def fracTellsWrong : ChangeSpec := { name := "fracTells", fn := fun _ => fun
  | [d1, d2, d3, d4] => { results := [.lit (.bool false)], args := [d1, d2, d3, d4] }
  | _ => none }
def FracTellsWrongFalsely : Prop := fracTellsRow.holds Try.pinned (OpenSpec.ofChange fracTellsWrong)

/- THE SECOND FORM. 'bulk': how many values and letters a reading holds, each counted each time it is reached (what is shared counts as often as it is met; a slice's spare places count too). A statement '..UptoSaid' is the law's where the arguments, and the package variables that the reading takes, are together of bulk at most 1048576: NARROWER than '..Said'. Prove '..Said' where nothing that the law and all that it calls make is longer than what came in: it says more and counts as full. Else prove '..UptoSaid'. A law counts once. -/
mutual
def uptoBulk {H : Type} : DataW H → Nat
  | .lit (.string bytes) => bytes.length + 1
  | .lit _ => 1
  | .nil => 1
  | .ptr d => uptoBulk d + 1
  | .slice elems spare => uptoBulkAll elems + uptoBulkAll spare + 1
  | .agg parts => uptoBulkAll parts + 1
  | .iface _ d => uptoBulk d + 1
  | .map entries => uptoBulkEntries entries + 1
  | .held _ => 1
def uptoBulkAll {H : Type} : List (DataW H) → Nat
  | [] => 0
  | d :: r => uptoBulk d + uptoBulkAll r
def uptoBulkEntries {H : Type} : List (Lit × DataW H) → Nat
  | [] => 0
  | x :: r => uptoBulkEntry x + uptoBulkEntries r
def uptoBulkEntry {H : Type} : Lit × DataW H → Nat
  | (.string bytes, d) => bytes.length + uptoBulk d + 1
  | (_, d) => uptoBulk d + 1
 end
def uptoSmall : (H : Type) → List (DataW H) → Bool := fun _ ds => decide (uptoBulkAll ds ≤ 1048576)
def OpenSpec.upto (s : _root_.Go.ChangeSpec) : _root_.Go.OpenSpec := { _root_.Go.OpenSpec.ofChange s with cond := some uptoSmall }

/-- 'fuseelaw01.FracCeil', WHERE WHAT IT READS IS OF BULK AT MOST 1048576: true; the input reads as it did. -/
def fracCeilUptoRow : OpenClaim := { program := "ytdhedkeeccofgaa", sum := "3fc8dedd2ef54401665765d5ffb4ffa1f564713c2118417daada6b5c53d083e2", func := "fusee/fuseelaw01.FracCeil", spec := "fracCeil", unfollowed := true, recurses := true, apart := false, narrowed := true }
def FracCeilUptoSaid : Prop := fracCeilUptoRow.holds Try.pinned (OpenSpec.upto fracCeilSpec)

/-- 'fuseelaw01.FracBeats', WHERE WHAT IT READS IS OF BULK AT MOST 1048576: true; the input reads as it did. -/
def fracBeatsUptoRow : OpenClaim := { program := "ytdhedkeeccofgaa", sum := "3fc8dedd2ef54401665765d5ffb4ffa1f564713c2118417daada6b5c53d083e2", func := "fusee/fuseelaw01.FracBeats", spec := "fracBeats", unfollowed := true, recurses := true, apart := false, narrowed := true }
def FracBeatsUptoSaid : Prop := fracBeatsUptoRow.holds Try.pinned (OpenSpec.upto fracBeatsSpec)

/-- 'fuseelaw01.FracRoot', WHERE WHAT IT READS IS OF BULK AT MOST 1048576: true; the input reads as it did. -/
def fracRootUptoRow : OpenClaim := { program := "ytdhedkeeccofgaa", sum := "3fc8dedd2ef54401665765d5ffb4ffa1f564713c2118417daada6b5c53d083e2", func := "fusee/fuseelaw01.FracRoot", spec := "fracRoot", unfollowed := true, recurses := true, apart := false, narrowed := true }
def FracRootUptoSaid : Prop := fracRootUptoRow.holds Try.pinned (OpenSpec.upto fracRootSpec)

/-- 'fuseelaw01.FracGrow', WHERE WHAT IT READS IS OF BULK AT MOST 1048576: true; the input reads as it did. -/
def fracGrowUptoRow : OpenClaim := { program := "ytdhedkeeccofgaa", sum := "3fc8dedd2ef54401665765d5ffb4ffa1f564713c2118417daada6b5c53d083e2", func := "fusee/fuseelaw01.FracGrow", spec := "fracGrow", unfollowed := true, recurses := true, apart := false, narrowed := true }
def FracGrowUptoSaid : Prop := fracGrowUptoRow.holds Try.pinned (OpenSpec.upto fracGrowSpec)

/-- 'fuseelaw01.FracWhole', WHERE WHAT IT READS IS OF BULK AT MOST 1048576: true; the input reads as it did. -/
def fracWholeUptoRow : OpenClaim := { program := "ytdhedkeeccofgaa", sum := "3fc8dedd2ef54401665765d5ffb4ffa1f564713c2118417daada6b5c53d083e2", func := "fusee/fuseelaw01.FracWhole", spec := "fracWhole", unfollowed := true, recurses := true, apart := false, narrowed := true }
def FracWholeUptoSaid : Prop := fracWholeUptoRow.holds Try.pinned (OpenSpec.upto fracWholeSpec)

/-- 'fuseelaw01.FracOrder', WHERE WHAT IT READS IS OF BULK AT MOST 1048576: true; the input reads as it did. -/
def fracOrderUptoRow : OpenClaim := { program := "ytdhedkeeccofgaa", sum := "3fc8dedd2ef54401665765d5ffb4ffa1f564713c2118417daada6b5c53d083e2", func := "fusee/fuseelaw01.FracOrder", spec := "fracOrder", unfollowed := true, recurses := true, apart := false, narrowed := true }
def FracOrderUptoSaid : Prop := fracOrderUptoRow.holds Try.pinned (OpenSpec.upto fracOrderSpec)

/-- 'fuseelaw01.FracScale', WHERE WHAT IT READS IS OF BULK AT MOST 1048576: true; the input reads as it did. -/
def fracScaleUptoRow : OpenClaim := { program := "ytdhedkeeccofgaa", sum := "3fc8dedd2ef54401665765d5ffb4ffa1f564713c2118417daada6b5c53d083e2", func := "fusee/fuseelaw01.FracScale", spec := "fracScale", unfollowed := true, recurses := true, apart := false, narrowed := true }
def FracScaleUptoSaid : Prop := fracScaleUptoRow.holds Try.pinned (OpenSpec.upto fracScaleSpec)

/-- 'fuseelaw01.FracTells', WHERE WHAT IT READS IS OF BULK AT MOST 1048576: true; the input reads as it did. -/
def fracTellsUptoRow : OpenClaim := { program := "ytdhedkeeccofgaa", sum := "3fc8dedd2ef54401665765d5ffb4ffa1f564713c2118417daada6b5c53d083e2", func := "fusee/fuseelaw01.FracTells", spec := "fracTells", unfollowed := true, recurses := true, apart := false, narrowed := true }
def FracTellsUptoSaid : Prop := fracTellsUptoRow.holds Try.pinned (OpenSpec.upto fracTellsSpec)

end Rows
end Go.Proofs.Ytdhedkeeccofgaa
