-- Written by a program of this session (hprint.py), out of the translation; functions that the print does not take are given by hand.
import Derived.Test.YtdhedkeeccofgaaProg
import Derived.Below
import Derived.Deep.Draws
import Derived.Deep.AppendLies
import Derived.Maps.AppendAt
import Derived.OwnWalk
import Derived.Laws.BytesArg
import Derived.Laws.MakeOwn
import Derived.Laws.OwnMore
import Derived.Deep.OwnRows
import Derived.Tactics
import Derived.Lib.ConvBytes
import Derived.Laws.Slices
import Derived.WalkKit
import Derived.KernelRfl
import Derived.RowKit3
import Derived.Deep.LoopGhost
import Derived.Deep.QuietTactic
import Derived.BigQuiet
import Derived.WideLaws
import Derived.Deep.DeepCutAuto
import Derived.Deep.CutBlock
import Derived.Deep.RegionHeld3
import Derived.Laws.Rows
import Derived.Lib.AppendStr
import Derived.ArgAppend
import Derived.Laws.IdiomCopy
import Derived.OrdersHeld
import Derived.Laws.BitsLemmas
import Derived.RowKit
import Derived.Test.YtdhedkeeccofgaaMine
import Derived.Test.YtdhedkeeccofgaaWWords
import Derived.Test.YtdhedkeeccofgaaWLast
import Derived.Test.YtdhedkeeccofgaaWTab
import Derived.Test.YtdhedkeeccofgaaWFour
import Derived.Test.YtdhedkeeccofgaaWQPut
import Derived.Test.YtdhedkeeccofgaaWApart
import Derived.Test.YtdhedkeeccofgaaWArr
import Derived.Test.YtdhedkeeccofgaaWZeros
import Derived.Test.YtdhedkeeccofgaaWFoot
import Derived.Test.YtdhedkeeccofgaaWKept
import Derived.Test.YtdhedkeeccofgaaWShare
import Derived.Test.YtdhedkeeccofgaaWN
import Derived.Test.YtdhedkeeccofgaaWFootNe
import Derived.Test.YtdhedkeeccofgaaWAt
import Derived.Test.YtdhedkeeccofgaaWEqStruct
import Derived.Test.YtdhedkeeccofgaaWRepsOne
import Derived.Test.YtdhedkeeccofgaaWInv
import Derived.Test.YtdhedkeeccofgaaWInvWords
import Derived.Test.YtdhedkeeccofgaaWGuard
import Derived.Test.YtdhedkeeccofgaaWNEv
import Derived.Test.YtdhedkeeccofgaaWMore
namespace Go.Proofs.Ytdhedkeeccofgaa.P
open Go.RowKit Go.Proofs.YtdhedkeeccofgaaM Go.Proofs.YtdhedkeeccofgaaW.PrintWords Go.Proofs.YtdhedkeeccofgaaW.PrintLast Go.Proofs.YtdhedkeeccofgaaW.PrintMore
attribute [local go_sem] max2_int min2_int max_two min_two max_three min_three max_four min_four   -- for this text's walks alone
set_option linter.unusedVariables false
set_option linter.unusedSimpArgs false



def errW : Option Int → Value
  | none => .nilIface
  | some c => .iface 0 (.int .i64 c)
theorem errW_none : errW none = .nilIface := rfl
theorem errW_some (c : Int) : errW (some c) = .iface 0 (.int .i64 c) := rfl

-- the values' own types

end Go.Proofs.Ytdhedkeeccofgaa.P
