/-
  No cell of these rows narrows 'for every input' (looked for: loops, veiled, ifaces, maps, wideKeys, modest, calm, conditions, laid).
  DERIVED. THE GIVEN ROWS OF THIS SEAT. 5 by the template 'for every input the law returns true; each argument reads behind the call as it read before'; 0 by the template 'total and deterministic' (their statements: YtkcpkglplhgjfaaTotals.lean).
  GIVEN WITH THE SEED: the statements are not yours to turn. If you find one false, say at which input.
  Laid BY PROGRAM, IN A SANDBOX (cutbox-rows.mjs): the forced cells as the released guide's own fill.sh prints them over the translation 6de7c326c53718e4… (all of the seat's roots in one cut). By AI agents, Wed Nov 11 2026. No macro, syntax, notation, axiom, sorry.
-/
import Derived.Test.YtkcpkglplhgjfaaChecked
import GoSem.Claim
import GoSem.ClaimJoined
import GoSem.ClaimMapViews
import Derived.JoinedTies
import Derived.KernelRfl
namespace Go.Proofs.Ytkcpkglplhgjfaa
/- THE CELL 'sum', in the pinned program and in every row, IS THE sha256 OF THE DUMP (.gsa) THAT YtkcpkglplhgjfaaProg.lean LOADS. Nothing in Lean hashes anything: it is a label: what it is worth is what the hold of that sum in a sandbox is worth. -/
noncomputable def Try.pinned : Pinned := { name := "ytkcpkglplhgjfaa", sum := "6de7c326c53718e43c4b270364acf9a440fb25b6f70dcd59da3974602fd78cc0", checked := Try.checked }
namespace Rows
def none {H : Type} : Left H := { results := [], args := [] }

/-- 'fuseelaw06.UnitsTell': WHATEVER THE INPUT: true; the input reads as it did. -/
def unitsTellSpec : ChangeSpec := { name := "unitsTell", fn := fun _ => fun
  | [d1, d2, d3] => { results := [.lit (.bool true)], args := [d1, d2, d3] }
  | _ => none }
def unitsTellRow : OpenClaim := { program := "ytkcpkglplhgjfaa", sum := "6de7c326c53718e43c4b270364acf9a440fb25b6f70dcd59da3974602fd78cc0", func := "fusee/fuseelaw06.UnitsTell", spec := "unitsTell", unfollowed := true, recurses := true, apart := false }
def UnitsTellSaid : Prop := unitsTellRow.holds Try.pinned (OpenSpec.ofChange unitsTellSpec)

/-- ITS FALSE NEIGHBOUR: 'it returns false'. Refute it at one input. -/
def unitsTellWrong : ChangeSpec := { name := "unitsTell", fn := fun _ => fun
  | [d1, d2, d3] => { results := [.lit (.bool false)], args := [d1, d2, d3] }
  | _ => none }
def UnitsTellWrongFalsely : Prop := unitsTellRow.holds Try.pinned (OpenSpec.ofChange unitsTellWrong)

/-- 'fuseelaw06.UnitsFall': WHATEVER THE INPUT: true; the input reads as it did. -/
def unitsFallSpec : ChangeSpec := { name := "unitsFall", fn := fun _ => fun
  | [d1, d2, d3] => { results := [.lit (.bool true)], args := [d1, d2, d3] }
  | _ => none }
def unitsFallRow : OpenClaim := { program := "ytkcpkglplhgjfaa", sum := "6de7c326c53718e43c4b270364acf9a440fb25b6f70dcd59da3974602fd78cc0", func := "fusee/fuseelaw06.UnitsFall", spec := "unitsFall", unfollowed := true, recurses := true, apart := false }
def UnitsFallSaid : Prop := unitsFallRow.holds Try.pinned (OpenSpec.ofChange unitsFallSpec)

/-- ITS FALSE NEIGHBOUR: 'it returns false'. Refute it at one input. -/
def unitsFallWrong : ChangeSpec := { name := "unitsFall", fn := fun _ => fun
  | [d1, d2, d3] => { results := [.lit (.bool false)], args := [d1, d2, d3] }
  | _ => none }
def UnitsFallWrongFalsely : Prop := unitsFallRow.holds Try.pinned (OpenSpec.ofChange unitsFallWrong)

/-- 'fuseelaw06.UnitsParts': WHATEVER THE INPUT: true; the input reads as it did. -/
def unitsPartsSpec : ChangeSpec := { name := "unitsParts", fn := fun _ => fun
  | [d1, d2] => { results := [.lit (.bool true)], args := [d1, d2] }
  | _ => none }
def unitsPartsRow : OpenClaim := { program := "ytkcpkglplhgjfaa", sum := "6de7c326c53718e43c4b270364acf9a440fb25b6f70dcd59da3974602fd78cc0", func := "fusee/fuseelaw06.UnitsParts", spec := "unitsParts", unfollowed := true, recurses := true, apart := false }
def UnitsPartsSaid : Prop := unitsPartsRow.holds Try.pinned (OpenSpec.ofChange unitsPartsSpec)

/-- ITS FALSE NEIGHBOUR: 'it returns false'. Refute it at one input. -/
def unitsPartsWrong : ChangeSpec := { name := "unitsParts", fn := fun _ => fun
  | [d1, d2] => { results := [.lit (.bool false)], args := [d1, d2] }
  | _ => none }
def UnitsPartsWrongFalsely : Prop := unitsPartsRow.holds Try.pinned (OpenSpec.ofChange unitsPartsWrong)

/-- 'fuseelaw06.UnitsParted': WHATEVER THE INPUT: true; the input reads as it did. -/
def unitsPartedSpec : ChangeSpec := { name := "unitsParted", fn := fun _ => fun
  | [d1, d2] => { results := [.lit (.bool true)], args := [d1, d2] }
  | _ => none }
def unitsPartedRow : OpenClaim := { program := "ytkcpkglplhgjfaa", sum := "6de7c326c53718e43c4b270364acf9a440fb25b6f70dcd59da3974602fd78cc0", func := "fusee/fuseelaw06.UnitsParted", spec := "unitsParted", unfollowed := true, recurses := true, apart := false }
def UnitsPartedSaid : Prop := unitsPartedRow.holds Try.pinned (OpenSpec.ofChange unitsPartedSpec)

/-- ITS FALSE NEIGHBOUR: 'it returns false'. Refute it at one input. -/
def unitsPartedWrong : ChangeSpec := { name := "unitsParted", fn := fun _ => fun
  | [d1, d2] => { results := [.lit (.bool false)], args := [d1, d2] }
  | _ => none }
def UnitsPartedWrongFalsely : Prop := unitsPartedRow.holds Try.pinned (OpenSpec.ofChange unitsPartedWrong)

/-- 'fuseelaw06.UnitsOrder': WHATEVER THE INPUT: true; the input reads as it did. -/
def unitsOrderSpec : ChangeSpec := { name := "unitsOrder", fn := fun _ => fun
  | [d1, d2] => { results := [.lit (.bool true)], args := [d1, d2] }
  | _ => none }
def unitsOrderRow : OpenClaim := { program := "ytkcpkglplhgjfaa", sum := "6de7c326c53718e43c4b270364acf9a440fb25b6f70dcd59da3974602fd78cc0", func := "fusee/fuseelaw06.UnitsOrder", spec := "unitsOrder", unfollowed := true, recurses := true, apart := false }
def UnitsOrderSaid : Prop := unitsOrderRow.holds Try.pinned (OpenSpec.ofChange unitsOrderSpec)

/-- ITS FALSE NEIGHBOUR: 'it returns false'. Refute it at one input. -/
def unitsOrderWrong : ChangeSpec := { name := "unitsOrder", fn := fun _ => fun
  | [d1, d2] => { results := [.lit (.bool false)], args := [d1, d2] }
  | _ => none }
def UnitsOrderWrongFalsely : Prop := unitsOrderRow.holds Try.pinned (OpenSpec.ofChange unitsOrderWrong)

/- THE SECOND FORM. 'bulk': how many values and letters a reading holds, each counted each time it is reached (what is shared counts as often as it is met; a slice's spare places count too). A statement '..UptoSaid' is the law's where the arguments, and the package variables that the reading takes, are together of bulk at most 1048576: NARROWER than '..Said'. Prove '..Said' where nothing that the law and all that it calls make is longer than what came in: it says more and counts as full. Else prove '..UptoSaid'. A law counts once. -/
mutual
def uptoBulk {H : Type} : DataW H → Nat
  | .lit (.string bytes) => bytes.length + 1
  | .lit _ => 1
  | .nil => 1
  | .ptr d => uptoBulk d + 1
  | .slice elems spare => uptoBulkAll elems + uptoBulkAll spare + 1
  | .agg parts => uptoBulkAll parts + 1
  | .iface _ d => uptoBulk d + 1
  | .map entries => uptoBulkEntries entries + 1
  | .held _ => 1
def uptoBulkAll {H : Type} : List (DataW H) → Nat
  | [] => 0
  | d :: r => uptoBulk d + uptoBulkAll r
def uptoBulkEntries {H : Type} : List (Lit × DataW H) → Nat
  | [] => 0
  | x :: r => uptoBulkEntry x + uptoBulkEntries r
def uptoBulkEntry {H : Type} : Lit × DataW H → Nat
  | (.string bytes, d) => bytes.length + uptoBulk d + 1
  | (_, d) => uptoBulk d + 1
 end
def uptoSmall : (H : Type) → List (DataW H) → Bool := fun _ ds => decide (uptoBulkAll ds ≤ 1048576)
def OpenSpec.upto (s : _root_.Go.ChangeSpec) : _root_.Go.OpenSpec := { _root_.Go.OpenSpec.ofChange s with cond := some uptoSmall }

/-- 'fuseelaw06.UnitsTell', WHERE WHAT IT READS IS OF BULK AT MOST 1048576: true; the input reads as it did. -/
def unitsTellUptoRow : OpenClaim := { program := "ytkcpkglplhgjfaa", sum := "6de7c326c53718e43c4b270364acf9a440fb25b6f70dcd59da3974602fd78cc0", func := "fusee/fuseelaw06.UnitsTell", spec := "unitsTell", unfollowed := true, recurses := true, apart := false, narrowed := true }
def UnitsTellUptoSaid : Prop := unitsTellUptoRow.holds Try.pinned (OpenSpec.upto unitsTellSpec)

/-- 'fuseelaw06.UnitsFall', WHERE WHAT IT READS IS OF BULK AT MOST 1048576: true; the input reads as it did. -/
def unitsFallUptoRow : OpenClaim := { program := "ytkcpkglplhgjfaa", sum := "6de7c326c53718e43c4b270364acf9a440fb25b6f70dcd59da3974602fd78cc0", func := "fusee/fuseelaw06.UnitsFall", spec := "unitsFall", unfollowed := true, recurses := true, apart := false, narrowed := true }
def UnitsFallUptoSaid : Prop := unitsFallUptoRow.holds Try.pinned (OpenSpec.upto unitsFallSpec)

/-- 'fuseelaw06.UnitsParts', WHERE WHAT IT READS IS OF BULK AT MOST 1048576: true; the input reads as it did. -/
def unitsPartsUptoRow : OpenClaim := { program := "ytkcpkglplhgjfaa", sum := "6de7c326c53718e43c4b270364acf9a440fb25b6f70dcd59da3974602fd78cc0", func := "fusee/fuseelaw06.UnitsParts", spec := "unitsParts", unfollowed := true, recurses := true, apart := false, narrowed := true }
def UnitsPartsUptoSaid : Prop := unitsPartsUptoRow.holds Try.pinned (OpenSpec.upto unitsPartsSpec)

/-- 'fuseelaw06.UnitsParted', WHERE WHAT IT READS IS OF BULK AT MOST 1048576: true; the input reads as it did. -/
def unitsPartedUptoRow : OpenClaim := { program := "ytkcpkglplhgjfaa", sum := "6de7c326c53718e43c4b270364acf9a440fb25b6f70dcd59da3974602fd78cc0", func := "fusee/fuseelaw06.UnitsParted", spec := "unitsParted", unfollowed := true, recurses := true, apart := false, narrowed := true }
def UnitsPartedUptoSaid : Prop := unitsPartedUptoRow.holds Try.pinned (OpenSpec.upto unitsPartedSpec)

/-- 'fuseelaw06.UnitsOrder', WHERE WHAT IT READS IS OF BULK AT MOST 1048576: true; the input reads as it did. -/
def unitsOrderUptoRow : OpenClaim := { program := "ytkcpkglplhgjfaa", sum := "6de7c326c53718e43c4b270364acf9a440fb25b6f70dcd59da3974602fd78cc0", func := "fusee/fuseelaw06.UnitsOrder", spec := "unitsOrder", unfollowed := true, recurses := true, apart := false, narrowed := true }
def UnitsOrderUptoSaid : Prop := unitsOrderUptoRow.holds Try.pinned (OpenSpec.upto unitsOrderSpec)

end Rows
end Go.Proofs.Ytkcpkglplhgjfaa
