/- The chapter's example holds. No condition. -/
import Derived.Test.YtdhedkeeccofgaaPx1
namespace Go.Proofs.Ytdhedkeeccofgaa.Pure
open Go.RowKit Go.Proofs.Ytdhedkeeccofgaa.P
theorem awake01 : fuseelaw01_awake.f = some true := by decide +kernel
end Go.Proofs.Ytdhedkeeccofgaa.Pure
