/-
  No cell of these rows narrows 'for every input' (looked for: loops, veiled, ifaces, maps, wideKeys, modest, calm, conditions, laid).
  DERIVED. THE GIVEN ROWS OF THIS SEAT. 5 by the template 'for every input the law returns true; each argument reads behind the call as it read before'; 0 by the template 'total and deterministic' (their statements: YtojjffafofjfiaaTotals.lean).
  GIVEN WITH THE SEED: the statements are not yours to turn. If you find one false, say at which input.
  Laid BY PROGRAM, IN A SANDBOX (cutbox-rows.mjs): the forced cells as the released guide's own fill.sh prints them over the translation b78f75296a797c2f… (all of the seat's roots in one cut). By AI agents, Wed Nov 11 2026. No macro, syntax, notation, axiom, sorry.
-/
import Derived.Test.YtojjffafofjfiaaChecked
import GoSem.Claim
import GoSem.ClaimJoined
import GoSem.ClaimMapViews
import Derived.JoinedTies
import Derived.KernelRfl
namespace Go.Proofs.Ytojjffafofjfiaa
/- THE CELL 'sum', in the pinned program and in every row, IS THE sha256 OF THE DUMP (.gsa) THAT YtojjffafofjfiaaProg.lean LOADS. Nothing in Lean hashes anything: it is a label: what it is worth is what the hold of that sum in a sandbox is worth. -/
noncomputable def Try.pinned : Pinned := { name := "ytojjffafofjfiaa", sum := "b78f75296a797c2f34b73cb75bcac4850780b925ff14475db643f5bd585c57aa", checked := Try.checked }
namespace Rows
def none {H : Type} : Left H := { results := [], args := [] }

/-- 'fuseelaw11.JobSpec': WHATEVER THE INPUT: true; the input reads as it did. -/
def jobSpecSpec : ChangeSpec := { name := "jobSpec", fn := fun _ => fun
  | [d1, d2, d3] => { results := [.lit (.bool true)], args := [d1, d2, d3] }
  | _ => none }
def jobSpecRow : OpenClaim := { program := "ytojjffafofjfiaa", sum := "b78f75296a797c2f34b73cb75bcac4850780b925ff14475db643f5bd585c57aa", func := "fusee/fuseelaw11.JobSpec", spec := "jobSpec", unfollowed := true, recurses := true, apart := false }
def JobSpecSaid : Prop := jobSpecRow.holds Try.pinned (OpenSpec.ofChange jobSpecSpec)

/-- ITS FALSE NEIGHBOUR: 'it returns false'. Refute it at one input. -/
def jobSpecWrong : ChangeSpec := { name := "jobSpec", fn := fun _ => fun
  | [d1, d2, d3] => { results := [.lit (.bool false)], args := [d1, d2, d3] }
  | _ => none }
def JobSpecWrongFalsely : Prop := jobSpecRow.holds Try.pinned (OpenSpec.ofChange jobSpecWrong)

/-- 'fuseelaw11.JobRuns': WHATEVER THE INPUT: true; the input reads as it did. -/
def jobRunsSpec : ChangeSpec := { name := "jobRuns", fn := fun _ => fun
  | [d1, d2] => { results := [.lit (.bool true)], args := [d1, d2] }
  | _ => none }
def jobRunsRow : OpenClaim := { program := "ytojjffafofjfiaa", sum := "b78f75296a797c2f34b73cb75bcac4850780b925ff14475db643f5bd585c57aa", func := "fusee/fuseelaw11.JobRuns", spec := "jobRuns", unfollowed := true, recurses := true, apart := false }
def JobRunsSaid : Prop := jobRunsRow.holds Try.pinned (OpenSpec.ofChange jobRunsSpec)

/-- ITS FALSE NEIGHBOUR: 'it returns false'. Refute it at one input. -/
def jobRunsWrong : ChangeSpec := { name := "jobRuns", fn := fun _ => fun
  | [d1, d2] => { results := [.lit (.bool false)], args := [d1, d2] }
  | _ => none }
def JobRunsWrongFalsely : Prop := jobRunsRow.holds Try.pinned (OpenSpec.ofChange jobRunsWrong)

/-- 'fuseelaw11.JobLong': WHATEVER THE INPUT: true; the input reads as it did. -/
def jobLongSpec : ChangeSpec := { name := "jobLong", fn := fun _ => fun
  | [d1, d2, d3] => { results := [.lit (.bool true)], args := [d1, d2, d3] }
  | _ => none }
def jobLongRow : OpenClaim := { program := "ytojjffafofjfiaa", sum := "b78f75296a797c2f34b73cb75bcac4850780b925ff14475db643f5bd585c57aa", func := "fusee/fuseelaw11.JobLong", spec := "jobLong", unfollowed := true, recurses := true, apart := false }
def JobLongSaid : Prop := jobLongRow.holds Try.pinned (OpenSpec.ofChange jobLongSpec)

/-- ITS FALSE NEIGHBOUR: 'it returns false'. Refute it at one input. -/
def jobLongWrong : ChangeSpec := { name := "jobLong", fn := fun _ => fun
  | [d1, d2, d3] => { results := [.lit (.bool false)], args := [d1, d2, d3] }
  | _ => none }
def JobLongWrongFalsely : Prop := jobLongRow.holds Try.pinned (OpenSpec.ofChange jobLongWrong)

/-- 'fuseelaw11.JobTells': WHATEVER THE INPUT: true; the input reads as it did. -/
def jobTellsSpec : ChangeSpec := { name := "jobTells", fn := fun _ => fun
  | [d1, d2, d3, d4, d5, d6, d7] => { results := [.lit (.bool true)], args := [d1, d2, d3, d4, d5, d6, d7] }
  | _ => none }
def jobTellsRow : OpenClaim := { program := "ytojjffafofjfiaa", sum := "b78f75296a797c2f34b73cb75bcac4850780b925ff14475db643f5bd585c57aa", func := "fusee/fuseelaw11.JobTells", spec := "jobTells", unfollowed := true, recurses := true, apart := false }
def JobTellsSaid : Prop := jobTellsRow.holds Try.pinned (OpenSpec.ofChange jobTellsSpec)

/-- ITS FALSE NEIGHBOUR: 'it returns false'. Refute it at one input. -/
def jobTellsWrong : ChangeSpec := { name := "jobTells", fn := fun _ => fun
  | [d1, d2, d3, d4, d5, d6, d7] => { results := [.lit (.bool false)], args := [d1, d2, d3, d4, d5, d6, d7] }
  | _ => none }
def JobTellsWrongFalsely : Prop := jobTellsRow.holds Try.pinned (OpenSpec.ofChange jobTellsWrong)

/-- 'fuseelaw11.JobLate': WHATEVER THE INPUT: true; the input reads as it did. -/
def jobLateSpec : ChangeSpec := { name := "jobLate", fn := fun _ => fun
  | [d1, d2, d3, d4, d5] => { results := [.lit (.bool true)], args := [d1, d2, d3, d4, d5] }
  | _ => none }
def jobLateRow : OpenClaim := { program := "ytojjffafofjfiaa", sum := "b78f75296a797c2f34b73cb75bcac4850780b925ff14475db643f5bd585c57aa", func := "fusee/fuseelaw11.JobLate", spec := "jobLate", unfollowed := true, recurses := true, apart := false }
def JobLateSaid : Prop := jobLateRow.holds Try.pinned (OpenSpec.ofChange jobLateSpec)

/-- ITS FALSE NEIGHBOUR: 'it returns false'. Refute it at one input. -/
def jobLateWrong : ChangeSpec := { name := "jobLate", fn := fun _ => fun
  | [d1, d2, d3, d4, d5] => { results := [.lit (.bool false)], args := [d1, d2, d3, d4, d5] }
  | _ => none }
def JobLateWrongFalsely : Prop := jobLateRow.holds Try.pinned (OpenSpec.ofChange jobLateWrong)

/- THE SECOND FORM. 'bulk': how many values and letters a reading holds, each counted each time it is reached (what is shared counts as often as it is met; a slice's spare places count too). A statement '..UptoSaid' is the law's where the arguments, and the package variables that the reading takes, are together of bulk at most 1048576: NARROWER than '..Said'. Prove '..Said' where nothing that the law and all that it calls make is longer than what came in: it says more and counts as full. Else prove '..UptoSaid'. A law counts once. -/
mutual
def uptoBulk {H : Type} : DataW H → Nat
  | .lit (.string bytes) => bytes.length + 1
  | .lit _ => 1
  | .nil => 1
  | .ptr d => uptoBulk d + 1
  | .slice elems spare => uptoBulkAll elems + uptoBulkAll spare + 1
  | .agg parts => uptoBulkAll parts + 1
  | .iface _ d => uptoBulk d + 1
  | .map entries => uptoBulkEntries entries + 1
  | .held _ => 1
def uptoBulkAll {H : Type} : List (DataW H) → Nat
  | [] => 0
  | d :: r => uptoBulk d + uptoBulkAll r
def uptoBulkEntries {H : Type} : List (Lit × DataW H) → Nat
  | [] => 0
  | x :: r => uptoBulkEntry x + uptoBulkEntries r
def uptoBulkEntry {H : Type} : Lit × DataW H → Nat
  | (.string bytes, d) => bytes.length + uptoBulk d + 1
  | (_, d) => uptoBulk d + 1
 end
def uptoSmall : (H : Type) → List (DataW H) → Bool := fun _ ds => decide (uptoBulkAll ds ≤ 1048576)
def OpenSpec.upto (s : _root_.Go.ChangeSpec) : _root_.Go.OpenSpec := { _root_.Go.OpenSpec.ofChange s with cond := some uptoSmall }

/-- 'fuseelaw11.JobSpec', WHERE WHAT IT READS IS OF BULK AT MOST 1048576: true; the input reads as it did. -/
def jobSpecUptoRow : OpenClaim := { program := "ytojjffafofjfiaa", sum := "b78f75296a797c2f34b73cb75bcac4850780b925ff14475db643f5bd585c57aa", func := "fusee/fuseelaw11.JobSpec", spec := "jobSpec", unfollowed := true, recurses := true, apart := false, narrowed := true }
def JobSpecUptoSaid : Prop := jobSpecUptoRow.holds Try.pinned (OpenSpec.upto jobSpecSpec)

/-- 'fuseelaw11.JobRuns', WHERE WHAT IT READS IS OF BULK AT MOST 1048576: true; the input reads as it did. -/
def jobRunsUptoRow : OpenClaim := { program := "ytojjffafofjfiaa", sum := "b78f75296a797c2f34b73cb75bcac4850780b925ff14475db643f5bd585c57aa", func := "fusee/fuseelaw11.JobRuns", spec := "jobRuns", unfollowed := true, recurses := true, apart := false, narrowed := true }
def JobRunsUptoSaid : Prop := jobRunsUptoRow.holds Try.pinned (OpenSpec.upto jobRunsSpec)

/-- 'fuseelaw11.JobLong', WHERE WHAT IT READS IS OF BULK AT MOST 1048576: true; the input reads as it did. -/
def jobLongUptoRow : OpenClaim := { program := "ytojjffafofjfiaa", sum := "b78f75296a797c2f34b73cb75bcac4850780b925ff14475db643f5bd585c57aa", func := "fusee/fuseelaw11.JobLong", spec := "jobLong", unfollowed := true, recurses := true, apart := false, narrowed := true }
def JobLongUptoSaid : Prop := jobLongUptoRow.holds Try.pinned (OpenSpec.upto jobLongSpec)

/-- 'fuseelaw11.JobTells', WHERE WHAT IT READS IS OF BULK AT MOST 1048576: true; the input reads as it did. -/
def jobTellsUptoRow : OpenClaim := { program := "ytojjffafofjfiaa", sum := "b78f75296a797c2f34b73cb75bcac4850780b925ff14475db643f5bd585c57aa", func := "fusee/fuseelaw11.JobTells", spec := "jobTells", unfollowed := true, recurses := true, apart := false, narrowed := true }
def JobTellsUptoSaid : Prop := jobTellsUptoRow.holds Try.pinned (OpenSpec.upto jobTellsSpec)

/-- 'fuseelaw11.JobLate', WHERE WHAT IT READS IS OF BULK AT MOST 1048576: true; the input reads as it did. -/
def jobLateUptoRow : OpenClaim := { program := "ytojjffafofjfiaa", sum := "b78f75296a797c2f34b73cb75bcac4850780b925ff14475db643f5bd585c57aa", func := "fusee/fuseelaw11.JobLate", spec := "jobLate", unfollowed := true, recurses := true, apart := false, narrowed := true }
def JobLateUptoSaid : Prop := jobLateUptoRow.holds Try.pinned (OpenSpec.upto jobLateSpec)

end Rows
end Go.Proofs.Ytojjffafofjfiaa
