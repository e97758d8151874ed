/-
  No cell of these rows narrows 'for every input' (looked for: loops, veiled, ifaces, maps, wideKeys, modest, calm, conditions, laid).
  DERIVED. THE GIVEN ROWS OF THIS SEAT. 5 by the template 'for every input the law returns true; each argument reads behind the call as it read before'; 0 by the template 'total and deterministic' (their statements: YtceldebkpjgmkaaTotals.lean).
  GIVEN WITH THE SEED: the statements are not yours to turn. If you find one false, say at which input.
  Laid BY PROGRAM, IN A SANDBOX (cutbox-rows.mjs): the forced cells as the released guide's own fill.sh prints them over the translation 6240b7c0567573b4… (all of the seat's roots in one cut). By AI agents, Wed Nov 11 2026. No macro, syntax, notation, axiom, sorry.
-/
import Derived.Test.YtceldebkpjgmkaaChecked
import GoSem.Claim
import GoSem.ClaimJoined
import GoSem.ClaimMapViews
import Derived.JoinedTies
import Derived.KernelRfl
namespace Go.Proofs.Ytceldebkpjgmkaa
/- THE CELL 'sum', in the pinned program and in every row, IS THE sha256 OF THE DUMP (.gsa) THAT YtceldebkpjgmkaaProg.lean LOADS. Nothing in Lean hashes anything: it is a label: what it is worth is what the hold of that sum in a sandbox is worth. -/
noncomputable def Try.pinned : Pinned := { name := "ytceldebkpjgmkaa", sum := "6240b7c0567573b4493dbbad74739082f23e3aa742bf8ec1bd19a82ce4842f69", checked := Try.checked }
namespace Rows
def none {H : Type} : Left H := { results := [], args := [] }

/-- 'fuseelaw14.OptionOrder': WHATEVER THE INPUT: true; the input reads as it did. -/
def optionOrderSpec : ChangeSpec := { name := "optionOrder", fn := fun _ => fun
  | [d1, d2, d3] => { results := [.lit (.bool true)], args := [d1, d2, d3] }
  | _ => none }
def optionOrderRow : OpenClaim := { program := "ytceldebkpjgmkaa", sum := "6240b7c0567573b4493dbbad74739082f23e3aa742bf8ec1bd19a82ce4842f69", func := "fusee/fuseelaw14.OptionOrder", spec := "optionOrder", plainKeys := false, apart := false }
def OptionOrderSaid : Prop := optionOrderRow.holds Try.pinned (OpenSpec.ofChange optionOrderSpec)

/-- ITS FALSE NEIGHBOUR: 'it returns false'. Refute it at one input. -/
def optionOrderWrong : ChangeSpec := { name := "optionOrder", fn := fun _ => fun
  | [d1, d2, d3] => { results := [.lit (.bool false)], args := [d1, d2, d3] }
  | _ => none }
def OptionOrderWrongFalsely : Prop := optionOrderRow.holds Try.pinned (OpenSpec.ofChange optionOrderWrong)

/-- 'fuseelaw14.OptionFar': WHATEVER THE INPUT: true; the input reads as it did. -/
def optionFarSpec : ChangeSpec := { name := "optionFar", fn := fun _ => fun
  | [d1, d2, d3, d4] => { results := [.lit (.bool true)], args := [d1, d2, d3, d4] }
  | _ => none }
def optionFarRow : OpenClaim := { program := "ytceldebkpjgmkaa", sum := "6240b7c0567573b4493dbbad74739082f23e3aa742bf8ec1bd19a82ce4842f69", func := "fusee/fuseelaw14.OptionFar", spec := "optionFar", unfollowed := true, recurses := true, plainKeys := false, apart := false }
def OptionFarSaid : Prop := optionFarRow.holds Try.pinned (OpenSpec.ofChange optionFarSpec)

/-- ITS FALSE NEIGHBOUR: 'it returns false'. Refute it at one input. -/
def optionFarWrong : ChangeSpec := { name := "optionFar", fn := fun _ => fun
  | [d1, d2, d3, d4] => { results := [.lit (.bool false)], args := [d1, d2, d3, d4] }
  | _ => none }
def OptionFarWrongFalsely : Prop := optionFarRow.holds Try.pinned (OpenSpec.ofChange optionFarWrong)

/-- 'fuseelaw14.OptionTells': WHATEVER THE INPUT: true; the input reads as it did. -/
def optionTellsSpec : ChangeSpec := { name := "optionTells", fn := fun _ => fun
  | [d1, d2, d3, d4, d5, d6, d7] => { results := [.lit (.bool true)], args := [d1, d2, d3, d4, d5, d6, d7] }
  | _ => none }
def optionTellsRow : OpenClaim := { program := "ytceldebkpjgmkaa", sum := "6240b7c0567573b4493dbbad74739082f23e3aa742bf8ec1bd19a82ce4842f69", func := "fusee/fuseelaw14.OptionTells", spec := "optionTells", unfollowed := true, recurses := true, plainKeys := false, apart := false }
def OptionTellsSaid : Prop := optionTellsRow.holds Try.pinned (OpenSpec.ofChange optionTellsSpec)

/-- ITS FALSE NEIGHBOUR: 'it returns false'. Refute it at one input. -/
def optionTellsWrong : ChangeSpec := { name := "optionTells", fn := fun _ => fun
  | [d1, d2, d3, d4, d5, d6, d7] => { results := [.lit (.bool false)], args := [d1, d2, d3, d4, d5, d6, d7] }
  | _ => none }
def OptionTellsWrongFalsely : Prop := optionTellsRow.holds Try.pinned (OpenSpec.ofChange optionTellsWrong)

/-- 'fuseelaw14.OptionFirst': WHATEVER THE INPUT: true; the input reads as it did. -/
def optionFirstSpec : ChangeSpec := { name := "optionFirst", fn := fun _ => fun
  | [d] => { results := [.lit (.bool true)], args := [d] }
  | _ => none }
def optionFirstRow : OpenClaim := { program := "ytceldebkpjgmkaa", sum := "6240b7c0567573b4493dbbad74739082f23e3aa742bf8ec1bd19a82ce4842f69", func := "fusee/fuseelaw14.OptionFirst", spec := "optionFirst", unfollowed := true, recurses := true, plainKeys := false, apart := false }
def OptionFirstSaid : Prop := optionFirstRow.holds Try.pinned (OpenSpec.ofChange optionFirstSpec)

/-- ITS FALSE NEIGHBOUR: 'it returns false'. Refute it at one input. -/
def optionFirstWrong : ChangeSpec := { name := "optionFirst", fn := fun _ => fun
  | [d] => { results := [.lit (.bool false)], args := [d] }
  | _ => none }
def OptionFirstWrongFalsely : Prop := optionFirstRow.holds Try.pinned (OpenSpec.ofChange optionFirstWrong)

/-- 'fuseelaw14.OptionBoth': WHATEVER THE INPUT: true; the input reads as it did. -/
def optionBothSpec : ChangeSpec := { name := "optionBoth", fn := fun _ => fun
  | [d1, d2] => { results := [.lit (.bool true)], args := [d1, d2] }
  | _ => none }
def optionBothRow : OpenClaim := { program := "ytceldebkpjgmkaa", sum := "6240b7c0567573b4493dbbad74739082f23e3aa742bf8ec1bd19a82ce4842f69", func := "fusee/fuseelaw14.OptionBoth", spec := "optionBoth", unfollowed := true, recurses := true, plainKeys := false, apart := false }
def OptionBothSaid : Prop := optionBothRow.holds Try.pinned (OpenSpec.ofChange optionBothSpec)

/-- ITS FALSE NEIGHBOUR: 'it returns false'. Refute it at one input. -/
def optionBothWrong : ChangeSpec := { name := "optionBoth", fn := fun _ => fun
  | [d1, d2] => { results := [.lit (.bool false)], args := [d1, d2] }
  | _ => none }
def OptionBothWrongFalsely : Prop := optionBothRow.holds Try.pinned (OpenSpec.ofChange optionBothWrong)

/- THE SECOND FORM. 'bulk': how many values and letters a reading holds, each counted each time it is reached (what is shared counts as often as it is met; a slice's spare places count too). A statement '..UptoSaid' is the law's where the arguments, and the package variables that the reading takes, are together of bulk at most 1048576: NARROWER than '..Said'. Prove '..Said' where nothing that the law and all that it calls make is longer than what came in: it says more and counts as full. Else prove '..UptoSaid'. A law counts once. -/
mutual
def uptoBulk {H : Type} : DataW H → Nat
  | .lit (.string bytes) => bytes.length + 1
  | .lit _ => 1
  | .nil => 1
  | .ptr d => uptoBulk d + 1
  | .slice elems spare => uptoBulkAll elems + uptoBulkAll spare + 1
  | .agg parts => uptoBulkAll parts + 1
  | .iface _ d => uptoBulk d + 1
  | .map entries => uptoBulkEntries entries + 1
  | .held _ => 1
def uptoBulkAll {H : Type} : List (DataW H) → Nat
  | [] => 0
  | d :: r => uptoBulk d + uptoBulkAll r
def uptoBulkEntries {H : Type} : List (Lit × DataW H) → Nat
  | [] => 0
  | x :: r => uptoBulkEntry x + uptoBulkEntries r
def uptoBulkEntry {H : Type} : Lit × DataW H → Nat
  | (.string bytes, d) => bytes.length + uptoBulk d + 1
  | (_, d) => uptoBulk d + 1
 end
def uptoSmall : (H : Type) → List (DataW H) → Bool := fun _ ds => decide (uptoBulkAll ds ≤ 1048576)
def OpenSpec.upto (s : _root_.Go.ChangeSpec) : _root_.Go.OpenSpec := { _root_.Go.OpenSpec.ofChange s with cond := some uptoSmall }

/-- 'fuseelaw14.OptionOrder', WHERE WHAT IT READS IS OF BULK AT MOST 1048576: true; the input reads as it did. -/
def optionOrderUptoRow : OpenClaim := { program := "ytceldebkpjgmkaa", sum := "6240b7c0567573b4493dbbad74739082f23e3aa742bf8ec1bd19a82ce4842f69", func := "fusee/fuseelaw14.OptionOrder", spec := "optionOrder", plainKeys := false, apart := false, narrowed := true }
def OptionOrderUptoSaid : Prop := optionOrderUptoRow.holds Try.pinned (OpenSpec.upto optionOrderSpec)

/-- 'fuseelaw14.OptionFar', WHERE WHAT IT READS IS OF BULK AT MOST 1048576: true; the input reads as it did. -/
def optionFarUptoRow : OpenClaim := { program := "ytceldebkpjgmkaa", sum := "6240b7c0567573b4493dbbad74739082f23e3aa742bf8ec1bd19a82ce4842f69", func := "fusee/fuseelaw14.OptionFar", spec := "optionFar", unfollowed := true, recurses := true, plainKeys := false, apart := false, narrowed := true }
def OptionFarUptoSaid : Prop := optionFarUptoRow.holds Try.pinned (OpenSpec.upto optionFarSpec)

/-- 'fuseelaw14.OptionTells', WHERE WHAT IT READS IS OF BULK AT MOST 1048576: true; the input reads as it did. -/
def optionTellsUptoRow : OpenClaim := { program := "ytceldebkpjgmkaa", sum := "6240b7c0567573b4493dbbad74739082f23e3aa742bf8ec1bd19a82ce4842f69", func := "fusee/fuseelaw14.OptionTells", spec := "optionTells", unfollowed := true, recurses := true, plainKeys := false, apart := false, narrowed := true }
def OptionTellsUptoSaid : Prop := optionTellsUptoRow.holds Try.pinned (OpenSpec.upto optionTellsSpec)

/-- 'fuseelaw14.OptionFirst', WHERE WHAT IT READS IS OF BULK AT MOST 1048576: true; the input reads as it did. -/
def optionFirstUptoRow : OpenClaim := { program := "ytceldebkpjgmkaa", sum := "6240b7c0567573b4493dbbad74739082f23e3aa742bf8ec1bd19a82ce4842f69", func := "fusee/fuseelaw14.OptionFirst", spec := "optionFirst", unfollowed := true, recurses := true, plainKeys := false, apart := false, narrowed := true }
def OptionFirstUptoSaid : Prop := optionFirstUptoRow.holds Try.pinned (OpenSpec.upto optionFirstSpec)

/-- 'fuseelaw14.OptionBoth', WHERE WHAT IT READS IS OF BULK AT MOST 1048576: true; the input reads as it did. -/
def optionBothUptoRow : OpenClaim := { program := "ytceldebkpjgmkaa", sum := "6240b7c0567573b4493dbbad74739082f23e3aa742bf8ec1bd19a82ce4842f69", func := "fusee/fuseelaw14.OptionBoth", spec := "optionBoth", unfollowed := true, recurses := true, plainKeys := false, apart := false, narrowed := true }
def OptionBothUptoSaid : Prop := optionBothUptoRow.holds Try.pinned (OpenSpec.upto optionBothSpec)

end Rows
end Go.Proofs.Ytceldebkpjgmkaa
