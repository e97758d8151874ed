/-
  No cell of these rows narrows 'for every input' (looked for: loops, veiled, ifaces, maps, wideKeys, modest, calm, conditions, laid).
  DERIVED. THE GIVEN ROWS OF THIS SEAT. 4 by the template 'for every input the law returns true; each argument reads behind the call as it read before'; 0 by the template 'total and deterministic' (their statements: YtphonmldcbgklaaTotals.lean).
  GIVEN WITH THE SEED: the statements are not yours to turn. If you find one false, say at which input.
  Laid BY PROGRAM, IN A SANDBOX (cutbox-rows.mjs): the forced cells as the released guide's own fill.sh prints them over the translation 8d481aad9006c8d6… (all of the seat's roots in one cut). By AI agents, Wed Nov 11 2026. No macro, syntax, notation, axiom, sorry.
-/
import Derived.Test.YtphonmldcbgklaaChecked
import GoSem.Claim
import GoSem.ClaimJoined
import GoSem.ClaimMapViews
import Derived.JoinedTies
import Derived.KernelRfl
namespace Go.Proofs.Ytphonmldcbgklaa
/- THE CELL 'sum', in the pinned program and in every row, IS THE sha256 OF THE DUMP (.gsa) THAT YtphonmldcbgklaaProg.lean LOADS. Nothing in Lean hashes anything: it is a label: what it is worth is what the hold of that sum in a sandbox is worth. -/
noncomputable def Try.pinned : Pinned := { name := "ytphonmldcbgklaa", sum := "8d481aad9006c8d6a5a566d1f30ce40fe1a16ff3b410e27a2d0bc82be01294c8", checked := Try.checked }
namespace Rows
def none {H : Type} : Left H := { results := [], args := [] }

/-- 'fuseelaw15.TaskJob': WHATEVER THE INPUT: true; the input reads as it did. -/
def taskJobSpec : ChangeSpec := { name := "taskJob", fn := fun _ => fun
  | [d1, d2, d3] => { results := [.lit (.bool true)], args := [d1, d2, d3] }
  | _ => none }
def taskJobRow : OpenClaim := { program := "ytphonmldcbgklaa", sum := "8d481aad9006c8d6a5a566d1f30ce40fe1a16ff3b410e27a2d0bc82be01294c8", func := "fusee/fuseelaw15.TaskJob", spec := "taskJob", unfollowed := true, recurses := true, apart := false }
def TaskJobSaid : Prop := taskJobRow.holds Try.pinned (OpenSpec.ofChange taskJobSpec)

/-- ITS FALSE NEIGHBOUR: 'it returns false'. Refute it at one input. -/
def taskJobWrong : ChangeSpec := { name := "taskJob", fn := fun _ => fun
  | [d1, d2, d3] => { results := [.lit (.bool false)], args := [d1, d2, d3] }
  | _ => none }
def TaskJobWrongFalsely : Prop := taskJobRow.holds Try.pinned (OpenSpec.ofChange taskJobWrong)

/-- 'fuseelaw15.TaskLive': WHATEVER THE INPUT: true; the input reads as it did. -/
def taskLiveSpec : ChangeSpec := { name := "taskLive", fn := fun _ => fun
  | [d1, d2] => { results := [.lit (.bool true)], args := [d1, d2] }
  | _ => none }
def taskLiveRow : OpenClaim := { program := "ytphonmldcbgklaa", sum := "8d481aad9006c8d6a5a566d1f30ce40fe1a16ff3b410e27a2d0bc82be01294c8", func := "fusee/fuseelaw15.TaskLive", spec := "taskLive", unfollowed := true, recurses := true, apart := false }
def TaskLiveSaid : Prop := taskLiveRow.holds Try.pinned (OpenSpec.ofChange taskLiveSpec)

/-- ITS FALSE NEIGHBOUR: 'it returns false'. Refute it at one input. -/
def taskLiveWrong : ChangeSpec := { name := "taskLive", fn := fun _ => fun
  | [d1, d2] => { results := [.lit (.bool false)], args := [d1, d2] }
  | _ => none }
def TaskLiveWrongFalsely : Prop := taskLiveRow.holds Try.pinned (OpenSpec.ofChange taskLiveWrong)

/-- 'fuseelaw15.TaskTurns': WHATEVER THE INPUT: true; the input reads as it did. -/
def taskTurnsSpec : ChangeSpec := { name := "taskTurns", fn := fun _ => fun
  | [d1, d2, d3, d4] => { results := [.lit (.bool true)], args := [d1, d2, d3, d4] }
  | _ => none }
def taskTurnsRow : OpenClaim := { program := "ytphonmldcbgklaa", sum := "8d481aad9006c8d6a5a566d1f30ce40fe1a16ff3b410e27a2d0bc82be01294c8", func := "fusee/fuseelaw15.TaskTurns", spec := "taskTurns", unfollowed := true, recurses := true, apart := false }
def TaskTurnsSaid : Prop := taskTurnsRow.holds Try.pinned (OpenSpec.ofChange taskTurnsSpec)

/-- ITS FALSE NEIGHBOUR: 'it returns false'. Refute it at one input. -/
def taskTurnsWrong : ChangeSpec := { name := "taskTurns", fn := fun _ => fun
  | [d1, d2, d3, d4] => { results := [.lit (.bool false)], args := [d1, d2, d3, d4] }
  | _ => none }
def TaskTurnsWrongFalsely : Prop := taskTurnsRow.holds Try.pinned (OpenSpec.ofChange taskTurnsWrong)

/-- 'fuseelaw15.TaskGood': WHATEVER THE INPUT: true; the input reads as it did. -/
def taskGoodSpec : ChangeSpec := { name := "taskGood", fn := fun _ => fun
  | [d1, d2] => { results := [.lit (.bool true)], args := [d1, d2] }
  | _ => none }
def taskGoodRow : OpenClaim := { program := "ytphonmldcbgklaa", sum := "8d481aad9006c8d6a5a566d1f30ce40fe1a16ff3b410e27a2d0bc82be01294c8", func := "fusee/fuseelaw15.TaskGood", spec := "taskGood", unfollowed := true, recurses := true, apart := false }
def TaskGoodSaid : Prop := taskGoodRow.holds Try.pinned (OpenSpec.ofChange taskGoodSpec)

/-- ITS FALSE NEIGHBOUR: 'it returns false'. Refute it at one input. -/
def taskGoodWrong : ChangeSpec := { name := "taskGood", fn := fun _ => fun
  | [d1, d2] => { results := [.lit (.bool false)], args := [d1, d2] }
  | _ => none }
def TaskGoodWrongFalsely : Prop := taskGoodRow.holds Try.pinned (OpenSpec.ofChange taskGoodWrong)

/- THE SECOND FORM. 'bulk': how many values and letters a reading holds, each counted each time it is reached (what is shared counts as often as it is met; a slice's spare places count too). A statement '..UptoSaid' is the law's where the arguments, and the package variables that the reading takes, are together of bulk at most 1048576: NARROWER than '..Said'. Prove '..Said' where nothing that the law and all that it calls make is longer than what came in: it says more and counts as full. Else prove '..UptoSaid'. A law counts once. -/
mutual
def uptoBulk {H : Type} : DataW H → Nat
  | .lit (.string bytes) => bytes.length + 1
  | .lit _ => 1
  | .nil => 1
  | .ptr d => uptoBulk d + 1
  | .slice elems spare => uptoBulkAll elems + uptoBulkAll spare + 1
  | .agg parts => uptoBulkAll parts + 1
  | .iface _ d => uptoBulk d + 1
  | .map entries => uptoBulkEntries entries + 1
  | .held _ => 1
def uptoBulkAll {H : Type} : List (DataW H) → Nat
  | [] => 0
  | d :: r => uptoBulk d + uptoBulkAll r
def uptoBulkEntries {H : Type} : List (Lit × DataW H) → Nat
  | [] => 0
  | x :: r => uptoBulkEntry x + uptoBulkEntries r
def uptoBulkEntry {H : Type} : Lit × DataW H → Nat
  | (.string bytes, d) => bytes.length + uptoBulk d + 1
  | (_, d) => uptoBulk d + 1
 end
def uptoSmall : (H : Type) → List (DataW H) → Bool := fun _ ds => decide (uptoBulkAll ds ≤ 1048576)
def OpenSpec.upto (s : _root_.Go.ChangeSpec) : _root_.Go.OpenSpec := { _root_.Go.OpenSpec.ofChange s with cond := some uptoSmall }

/-- 'fuseelaw15.TaskJob', WHERE WHAT IT READS IS OF BULK AT MOST 1048576: true; the input reads as it did. -/
def taskJobUptoRow : OpenClaim := { program := "ytphonmldcbgklaa", sum := "8d481aad9006c8d6a5a566d1f30ce40fe1a16ff3b410e27a2d0bc82be01294c8", func := "fusee/fuseelaw15.TaskJob", spec := "taskJob", unfollowed := true, recurses := true, apart := false, narrowed := true }
def TaskJobUptoSaid : Prop := taskJobUptoRow.holds Try.pinned (OpenSpec.upto taskJobSpec)

/-- 'fuseelaw15.TaskLive', WHERE WHAT IT READS IS OF BULK AT MOST 1048576: true; the input reads as it did. -/
def taskLiveUptoRow : OpenClaim := { program := "ytphonmldcbgklaa", sum := "8d481aad9006c8d6a5a566d1f30ce40fe1a16ff3b410e27a2d0bc82be01294c8", func := "fusee/fuseelaw15.TaskLive", spec := "taskLive", unfollowed := true, recurses := true, apart := false, narrowed := true }
def TaskLiveUptoSaid : Prop := taskLiveUptoRow.holds Try.pinned (OpenSpec.upto taskLiveSpec)

/-- 'fuseelaw15.TaskTurns', WHERE WHAT IT READS IS OF BULK AT MOST 1048576: true; the input reads as it did. -/
def taskTurnsUptoRow : OpenClaim := { program := "ytphonmldcbgklaa", sum := "8d481aad9006c8d6a5a566d1f30ce40fe1a16ff3b410e27a2d0bc82be01294c8", func := "fusee/fuseelaw15.TaskTurns", spec := "taskTurns", unfollowed := true, recurses := true, apart := false, narrowed := true }
def TaskTurnsUptoSaid : Prop := taskTurnsUptoRow.holds Try.pinned (OpenSpec.upto taskTurnsSpec)

/-- 'fuseelaw15.TaskGood', WHERE WHAT IT READS IS OF BULK AT MOST 1048576: true; the input reads as it did. -/
def taskGoodUptoRow : OpenClaim := { program := "ytphonmldcbgklaa", sum := "8d481aad9006c8d6a5a566d1f30ce40fe1a16ff3b410e27a2d0bc82be01294c8", func := "fusee/fuseelaw15.TaskGood", spec := "taskGood", unfollowed := true, recurses := true, apart := false, narrowed := true }
def TaskGoodUptoSaid : Prop := taskGoodUptoRow.holds Try.pinned (OpenSpec.upto taskGoodSpec)

end Rows
end Go.Proofs.Ytphonmldcbgklaa
