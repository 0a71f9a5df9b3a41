-- PRINTED BY print.sh 35421559b90ae4d0a3588c463048766b98c2df88dd9212a6774a882060cdf62d: not written by this session
import Derived.Test.YtldanidookkmaaaProg
import Derived.Below
import Derived.Deep.Draws
import Derived.Deep.AppendLies
import Derived.Maps.AppendAt
import Derived.OwnWalk
import Derived.Laws.BytesArg
import Derived.Laws.MakeOwn
import Derived.Laws.OwnMore
import Derived.Deep.OwnRows
import Derived.Tactics
import Derived.Lib.ConvBytes
import Derived.Laws.Slices
import Derived.WalkKit
import Derived.KernelRfl
import Derived.RowKit3
import Derived.Deep.LoopGhost
import Derived.Deep.QuietTactic
import Derived.BigQuiet
import Derived.WideLaws
import Derived.Deep.DeepCutAuto
import Derived.Deep.CutBlock
import Derived.Deep.RegionHeld3
import Derived.Laws.Rows
import Derived.Lib.AppendStr
import Derived.ArgAppend
import Derived.Laws.IdiomCopy
import Derived.OrdersHeld
import Derived.Laws.BitsLemmas
import Derived.RowKit
import Derived.Test.YtldanidookkmaaaWWords
import Derived.Test.YtldanidookkmaaaWLast
import Derived.Test.YtldanidookkmaaaWTab
import Derived.Test.YtldanidookkmaaaWFour
import Derived.Test.YtldanidookkmaaaWQPut
import Derived.Test.YtldanidookkmaaaWApart
import Derived.Test.YtldanidookkmaaaWArr
import Derived.Test.YtldanidookkmaaaWZeros
import Derived.Test.YtldanidookkmaaaWFoot
import Derived.Test.YtldanidookkmaaaWKept
import Derived.Test.YtldanidookkmaaaWShare
import Derived.Test.YtldanidookkmaaaWN
import Derived.Test.YtldanidookkmaaaWFootNe
import Derived.Test.YtldanidookkmaaaWAt
import Derived.Test.YtldanidookkmaaaWEqStruct
import Derived.Test.YtldanidookkmaaaWRepsOne
import Derived.Test.YtldanidookkmaaaWInv
import Derived.Test.YtldanidookkmaaaWInvWords
import Derived.Test.YtldanidookkmaaaWGuard
import Derived.Test.YtldanidookkmaaaWNEv
import Derived.Test.YtldanidookkmaaaWMore
namespace Go.Proofs.Ytldanidookkmaaa.PNumBudgets
open Go.RowKit Go.Proofs.YtldanidookkmaaaW.PrintWords Go.Proofs.YtldanidookkmaaaW.PrintLast Go.Proofs.YtldanidookkmaaaW.PrintMore
attribute [local go_sem] max2_int min2_int max_two min_two max_three min_three max_four min_four   -- for this text's walks alone
set_option linter.unusedVariables false
set_option linter.unusedSimpArgs false



def errW : Option Int → Value
  | none => .nilIface
  | some c => .iface 0 (.int .i64 c)
theorem errW_none : errW none = .nilIface := rfl
theorem errW_some (c : Int) : errW (some c) = .iface 0 (.int .i64 c) := rfl

theorem info3 : (Try.prog.info? 3).map (fun i => (i.zero, i.size, i.bytes)) = some (some (.int .i64 0), 1, 8) := by kernel_rfl
-- the values' own types

end Go.Proofs.Ytldanidookkmaaa.PNumBudgets
