/- The pure law: the chapter's example, reckoned out. -/
import Derived.Test.YtacdohlhalnioaaP0
import Derived.Test.YtacdohlhalnioaaE8
import Derived.Test.YtacdohlhalnioaaG4
set_option linter.unusedVariables false
set_option maxRecDepth 200000
namespace Go.Proofs.Ytacdohlhalnioaa
open Go.RowKit

def fx1 : Vol := fmtV 24 4
def fx2 : Vol := putV fx1 1 (freshI 0)
def fxR : Option (Vol × Ino) := wrV 1 fx2 (inoV fx2 1) 300 [120]
def fx3 : Vol := match fxR with
  | none => []
  | some (v', x') => putV v' 1 (if min x'.size 8960 < 301 then x'.setS 301 else x')
theorem fx_facts : okV fx1 = true ∧ (inoV fx1 1).kind = 0 ∧ inosV fx1 = 4 ∧ fx1.length = 24 ∧ okV fx2 = true ∧ inosV fx2 = 4 ∧ fx2.length = 24 ∧ fxR.isSome = true ∧ okV fx3 = true ∧ inosV fx3 = 4 ∧ fx3.length = 24 ∧ blocksV fx3 1 = [-1, -1, 5] ∧ countV fx3 1 = 1 := by
  decide +kernel
end Go.Proofs.Ytacdohlhalnioaa
