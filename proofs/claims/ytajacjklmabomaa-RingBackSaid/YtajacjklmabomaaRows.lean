/-
  No cell of these rows narrows 'for every input' (looked for: loops, veiled, ifaces, maps, wideKeys, modest, calm, conditions, laid).
  DERIVED. THE GIVEN ROWS OF THIS SEAT. 5 by the template 'for every input the law returns true; each argument reads behind the call as it read before'; 0 by the template 'total and deterministic' (their statements: YtajacjklmabomaaTotals.lean).
  GIVEN WITH THE SEED: the statements are not yours to turn. If you find one false, say at which input.
  Laid BY PROGRAM, IN A SANDBOX (cutbox-rows.mjs): the forced cells as the released guide's own fill.sh prints them over the translation 8928cea59862e0be… (all of the seat's roots in one cut). By AI agents, Wed Nov 11 2026. No macro, syntax, notation, axiom, sorry.
-/
import Derived.Test.YtajacjklmabomaaChecked
import GoSem.Claim
import GoSem.ClaimJoined
import GoSem.ClaimMapViews
import Derived.JoinedTies
import Derived.KernelRfl
namespace Go.Proofs.Ytajacjklmabomaa
/- THE CELL 'sum', in the pinned program and in every row, IS THE sha256 OF THE DUMP (.gsa) THAT YtajacjklmabomaaProg.lean LOADS. Nothing in Lean hashes anything: it is a label: what it is worth is what the hold of that sum in a sandbox is worth. -/
noncomputable def Try.pinned : Pinned := { name := "ytajacjklmabomaa", sum := "8928cea59862e0bed514d4ae3980d8863efddb026d2911dc6604de7d9203df6f", checked := Try.checked }
namespace Rows
def none {H : Type} : Left H := { results := [], args := [] }

/-- 'fuseelaw03.RingFar': WHATEVER THE INPUT: true; the input reads as it did. -/
def ringFarSpec : ChangeSpec := { name := "ringFar", fn := fun _ => fun
  | [d1, d2, d3] => { results := [.lit (.bool true)], args := [d1, d2, d3] }
  | _ => none }
def ringFarRow : OpenClaim := { program := "ytajacjklmabomaa", sum := "8928cea59862e0bed514d4ae3980d8863efddb026d2911dc6604de7d9203df6f", func := "fusee/fuseelaw03.RingFar", spec := "ringFar", unfollowed := true, recurses := true, apart := false }
def RingFarSaid : Prop := ringFarRow.holds Try.pinned (OpenSpec.ofChange ringFarSpec)

/-- ITS FALSE NEIGHBOUR: 'it returns false'. Refute it at one input. -/
def ringFarWrong : ChangeSpec := { name := "ringFar", fn := fun _ => fun
  | [d1, d2, d3] => { results := [.lit (.bool false)], args := [d1, d2, d3] }
  | _ => none }
def RingFarWrongFalsely : Prop := ringFarRow.holds Try.pinned (OpenSpec.ofChange ringFarWrong)

/-- 'fuseelaw03.RingTells': WHATEVER THE INPUT: true; the input reads as it did. -/
def ringTellsSpec : ChangeSpec := { name := "ringTells", fn := fun _ => fun
  | [d1, d2, d3, d4, d5, d6] => { results := [.lit (.bool true)], args := [d1, d2, d3, d4, d5, d6] }
  | _ => none }
def ringTellsRow : OpenClaim := { program := "ytajacjklmabomaa", sum := "8928cea59862e0bed514d4ae3980d8863efddb026d2911dc6604de7d9203df6f", func := "fusee/fuseelaw03.RingTells", spec := "ringTells", unfollowed := true, recurses := true, apart := false }
def RingTellsSaid : Prop := ringTellsRow.holds Try.pinned (OpenSpec.ofChange ringTellsSpec)

/-- ITS FALSE NEIGHBOUR: 'it returns false'. Refute it at one input. -/
def ringTellsWrong : ChangeSpec := { name := "ringTells", fn := fun _ => fun
  | [d1, d2, d3, d4, d5, d6] => { results := [.lit (.bool false)], args := [d1, d2, d3, d4, d5, d6] }
  | _ => none }
def RingTellsWrongFalsely : Prop := ringTellsRow.holds Try.pinned (OpenSpec.ofChange ringTellsWrong)

/-- 'fuseelaw03.RingBack': WHATEVER THE INPUT: true; the input reads as it did. -/
def ringBackSpec : ChangeSpec := { name := "ringBack", fn := fun _ => fun
  | [d1, d2] => { results := [.lit (.bool true)], args := [d1, d2] }
  | _ => none }
def ringBackRow : OpenClaim := { program := "ytajacjklmabomaa", sum := "8928cea59862e0bed514d4ae3980d8863efddb026d2911dc6604de7d9203df6f", func := "fusee/fuseelaw03.RingBack", spec := "ringBack", unfollowed := true, recurses := true, apart := false }
def RingBackSaid : Prop := ringBackRow.holds Try.pinned (OpenSpec.ofChange ringBackSpec)

/-- ITS FALSE NEIGHBOUR: 'it returns false'. Refute it at one input. -/
def ringBackWrong : ChangeSpec := { name := "ringBack", fn := fun _ => fun
  | [d1, d2] => { results := [.lit (.bool false)], args := [d1, d2] }
  | _ => none }
def RingBackWrongFalsely : Prop := ringBackRow.holds Try.pinned (OpenSpec.ofChange ringBackWrong)

/-- 'fuseelaw03.RingCounts': WHATEVER THE INPUT: true; the input reads as it did. -/
def ringCountsSpec : ChangeSpec := { name := "ringCounts", fn := fun _ => fun
  | [d1, d2] => { results := [.lit (.bool true)], args := [d1, d2] }
  | _ => none }
def ringCountsRow : OpenClaim := { program := "ytajacjklmabomaa", sum := "8928cea59862e0bed514d4ae3980d8863efddb026d2911dc6604de7d9203df6f", func := "fusee/fuseelaw03.RingCounts", spec := "ringCounts", unfollowed := true, recurses := true, apart := false }
def RingCountsSaid : Prop := ringCountsRow.holds Try.pinned (OpenSpec.ofChange ringCountsSpec)

/-- ITS FALSE NEIGHBOUR: 'it returns false'. Refute it at one input. -/
def ringCountsWrong : ChangeSpec := { name := "ringCounts", fn := fun _ => fun
  | [d1, d2] => { results := [.lit (.bool false)], args := [d1, d2] }
  | _ => none }
def RingCountsWrongFalsely : Prop := ringCountsRow.holds Try.pinned (OpenSpec.ofChange ringCountsWrong)

/-- 'fuseelaw03.RingEven': WHATEVER THE INPUT: true; the input reads as it did. -/
def ringEvenSpec : ChangeSpec := { name := "ringEven", fn := fun _ => fun
  | [d1, d2, d3, d4, d5] => { results := [.lit (.bool true)], args := [d1, d2, d3, d4, d5] }
  | _ => none }
def ringEvenRow : OpenClaim := { program := "ytajacjklmabomaa", sum := "8928cea59862e0bed514d4ae3980d8863efddb026d2911dc6604de7d9203df6f", func := "fusee/fuseelaw03.RingEven", spec := "ringEven", unfollowed := true, recurses := true, apart := false }
def RingEvenSaid : Prop := ringEvenRow.holds Try.pinned (OpenSpec.ofChange ringEvenSpec)

/-- ITS FALSE NEIGHBOUR: 'it returns false'. Refute it at one input. -/
def ringEvenWrong : ChangeSpec := { name := "ringEven", fn := fun _ => fun
  | [d1, d2, d3, d4, d5] => { results := [.lit (.bool false)], args := [d1, d2, d3, d4, d5] }
  | _ => none }
def RingEvenWrongFalsely : Prop := ringEvenRow.holds Try.pinned (OpenSpec.ofChange ringEvenWrong)

/- THE SECOND FORM. 'bulk': how many values and letters a reading holds, each counted each time it is reached (what is shared counts as often as it is met; a slice's spare places count too). A statement '..UptoSaid' is the law's where the arguments, and the package variables that the reading takes, are together of bulk at most 1048576: NARROWER than '..Said'. Prove '..Said' where nothing that the law and all that it calls make is longer than what came in: it says more and counts as full. Else prove '..UptoSaid'. A law counts once. -/
mutual
def uptoBulk {H : Type} : DataW H → Nat
  | .lit (.string bytes) => bytes.length + 1
  | .lit _ => 1
  | .nil => 1
  | .ptr d => uptoBulk d + 1
  | .slice elems spare => uptoBulkAll elems + uptoBulkAll spare + 1
  | .agg parts => uptoBulkAll parts + 1
  | .iface _ d => uptoBulk d + 1
  | .map entries => uptoBulkEntries entries + 1
  | .held _ => 1
def uptoBulkAll {H : Type} : List (DataW H) → Nat
  | [] => 0
  | d :: r => uptoBulk d + uptoBulkAll r
def uptoBulkEntries {H : Type} : List (Lit × DataW H) → Nat
  | [] => 0
  | x :: r => uptoBulkEntry x + uptoBulkEntries r
def uptoBulkEntry {H : Type} : Lit × DataW H → Nat
  | (.string bytes, d) => bytes.length + uptoBulk d + 1
  | (_, d) => uptoBulk d + 1
 end
def uptoSmall : (H : Type) → List (DataW H) → Bool := fun _ ds => decide (uptoBulkAll ds ≤ 1048576)
def OpenSpec.upto (s : _root_.Go.ChangeSpec) : _root_.Go.OpenSpec := { _root_.Go.OpenSpec.ofChange s with cond := some uptoSmall }

/-- 'fuseelaw03.RingFar', WHERE WHAT IT READS IS OF BULK AT MOST 1048576: true; the input reads as it did. -/
def ringFarUptoRow : OpenClaim := { program := "ytajacjklmabomaa", sum := "8928cea59862e0bed514d4ae3980d8863efddb026d2911dc6604de7d9203df6f", func := "fusee/fuseelaw03.RingFar", spec := "ringFar", unfollowed := true, recurses := true, apart := false, narrowed := true }
def RingFarUptoSaid : Prop := ringFarUptoRow.holds Try.pinned (OpenSpec.upto ringFarSpec)

/-- 'fuseelaw03.RingTells', WHERE WHAT IT READS IS OF BULK AT MOST 1048576: true; the input reads as it did. -/
def ringTellsUptoRow : OpenClaim := { program := "ytajacjklmabomaa", sum := "8928cea59862e0bed514d4ae3980d8863efddb026d2911dc6604de7d9203df6f", func := "fusee/fuseelaw03.RingTells", spec := "ringTells", unfollowed := true, recurses := true, apart := false, narrowed := true }
def RingTellsUptoSaid : Prop := ringTellsUptoRow.holds Try.pinned (OpenSpec.upto ringTellsSpec)

/-- 'fuseelaw03.RingBack', WHERE WHAT IT READS IS OF BULK AT MOST 1048576: true; the input reads as it did. -/
def ringBackUptoRow : OpenClaim := { program := "ytajacjklmabomaa", sum := "8928cea59862e0bed514d4ae3980d8863efddb026d2911dc6604de7d9203df6f", func := "fusee/fuseelaw03.RingBack", spec := "ringBack", unfollowed := true, recurses := true, apart := false, narrowed := true }
def RingBackUptoSaid : Prop := ringBackUptoRow.holds Try.pinned (OpenSpec.upto ringBackSpec)

/-- 'fuseelaw03.RingCounts', WHERE WHAT IT READS IS OF BULK AT MOST 1048576: true; the input reads as it did. -/
def ringCountsUptoRow : OpenClaim := { program := "ytajacjklmabomaa", sum := "8928cea59862e0bed514d4ae3980d8863efddb026d2911dc6604de7d9203df6f", func := "fusee/fuseelaw03.RingCounts", spec := "ringCounts", unfollowed := true, recurses := true, apart := false, narrowed := true }
def RingCountsUptoSaid : Prop := ringCountsUptoRow.holds Try.pinned (OpenSpec.upto ringCountsSpec)

/-- 'fuseelaw03.RingEven', WHERE WHAT IT READS IS OF BULK AT MOST 1048576: true; the input reads as it did. -/
def ringEvenUptoRow : OpenClaim := { program := "ytajacjklmabomaa", sum := "8928cea59862e0bed514d4ae3980d8863efddb026d2911dc6604de7d9203df6f", func := "fusee/fuseelaw03.RingEven", spec := "ringEven", unfollowed := true, recurses := true, apart := false, narrowed := true }
def RingEvenUptoSaid : Prop := ringEvenUptoRow.holds Try.pinned (OpenSpec.upto ringEvenSpec)

end Rows
end Go.Proofs.Ytajacjklmabomaa
