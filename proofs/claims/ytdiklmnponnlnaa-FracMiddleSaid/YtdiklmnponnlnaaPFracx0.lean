-- laid by hprint.py (wip/): the kit's print, with contracts of this session
import Derived.Test.YtdiklmnponnlnaaProg
import Derived.Below
import Derived.Deep.Draws
import Derived.Deep.AppendLies
import Derived.Maps.AppendAt
import Derived.OwnWalk
import Derived.Laws.BytesArg
import Derived.Laws.MakeOwn
import Derived.Laws.OwnMore
import Derived.Deep.OwnRows
import Derived.Tactics
import Derived.Lib.ConvBytes
import Derived.Laws.Slices
import Derived.WalkKit
import Derived.KernelRfl
import Derived.RowKit3
import Derived.Deep.LoopGhost
import Derived.Deep.QuietTactic
import Derived.BigQuiet
import Derived.WideLaws
import Derived.Deep.DeepCutAuto
import Derived.Deep.CutBlock
import Derived.Deep.RegionHeld3
import Derived.Laws.Rows
import Derived.Lib.AppendStr
import Derived.ArgAppend
import Derived.Laws.IdiomCopy
import Derived.OrdersHeld
import Derived.Laws.BitsLemmas
import Derived.RowKit
import Derived.Test.YtdiklmnponnlnaaFd
import Derived.Test.YtdiklmnponnlnaaWWords
import Derived.Test.YtdiklmnponnlnaaWLast
import Derived.Test.YtdiklmnponnlnaaWTab
import Derived.Test.YtdiklmnponnlnaaWFour
import Derived.Test.YtdiklmnponnlnaaWQPut
import Derived.Test.YtdiklmnponnlnaaWApart
import Derived.Test.YtdiklmnponnlnaaWArr
import Derived.Test.YtdiklmnponnlnaaWZeros
import Derived.Test.YtdiklmnponnlnaaWFoot
import Derived.Test.YtdiklmnponnlnaaWKept
import Derived.Test.YtdiklmnponnlnaaWShare
import Derived.Test.YtdiklmnponnlnaaWN
import Derived.Test.YtdiklmnponnlnaaWFootNe
import Derived.Test.YtdiklmnponnlnaaWAt
import Derived.Test.YtdiklmnponnlnaaWEqStruct
import Derived.Test.YtdiklmnponnlnaaWRepsOne
import Derived.Test.YtdiklmnponnlnaaWInv
import Derived.Test.YtdiklmnponnlnaaWInvWords
import Derived.Test.YtdiklmnponnlnaaWGuard
import Derived.Test.YtdiklmnponnlnaaWNEv
import Derived.Test.YtdiklmnponnlnaaWMore
namespace Go.Proofs.Ytdiklmnponnlnaa.PFrac
open Go.RowKit Go.Proofs.YtdiklmnponnlnaaW.PrintWords Go.Proofs.YtdiklmnponnlnaaW.PrintLast Go.Proofs.YtdiklmnponnlnaaW.PrintMore
attribute [local go_sem] max2_int min2_int max_two min_two max_three min_three max_four min_four   -- for this text's walks alone
set_option linter.unusedVariables false
set_option linter.unusedSimpArgs false



def errW : Option Int → Value
  | none => .nilIface
  | some c => .iface 0 (.int .i64 c)
theorem errW_none : errW none = .nilIface := rfl
theorem errW_some (c : Int) : errW (some c) = .iface 0 (.int .i64 c) := rfl

-- the values' own types

end Go.Proofs.Ytdiklmnponnlnaa.PFrac
