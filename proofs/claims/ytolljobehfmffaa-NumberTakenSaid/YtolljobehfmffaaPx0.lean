-- WRITTEN BY A PROGRAM OF THIS SESSION (wip/pp in its repo), made after the kit's print
import Derived.Test.YtolljobehfmffaaProg
import Derived.Below
import Derived.Deep.Draws
import Derived.Deep.AppendLies
import Derived.Maps.AppendAt
import Derived.OwnWalk
import Derived.Laws.BytesArg
import Derived.Laws.MakeOwn
import Derived.Laws.OwnMore
import Derived.Deep.OwnRows
import Derived.Tactics
import Derived.Lib.ConvBytes
import Derived.Laws.Slices
import Derived.WalkKit
import Derived.KernelRfl
import Derived.RowKit3
import Derived.Deep.LoopGhost
import Derived.Deep.QuietTactic
import Derived.BigQuiet
import Derived.WideLaws
import Derived.Deep.DeepCutAuto
import Derived.Deep.CutBlock
import Derived.Deep.RegionHeld3
import Derived.Laws.Rows
import Derived.Lib.AppendStr
import Derived.ArgAppend
import Derived.Laws.IdiomCopy
import Derived.OrdersHeld
import Derived.Laws.BitsLemmas
import Derived.RowKit
import Derived.ScopeJumps
import Derived.WalkMore
import Derived.Test.YtolljobehfmffaaWWords
import Derived.Test.YtolljobehfmffaaWLast
import Derived.Test.YtolljobehfmffaaWTab
import Derived.Test.YtolljobehfmffaaWFour
import Derived.Test.YtolljobehfmffaaWQPut
import Derived.Test.YtolljobehfmffaaWApart
import Derived.Test.YtolljobehfmffaaWArr
import Derived.Test.YtolljobehfmffaaWZeros
import Derived.Test.YtolljobehfmffaaWFoot
import Derived.Test.YtolljobehfmffaaWKept
import Derived.Test.YtolljobehfmffaaWShare
import Derived.Test.YtolljobehfmffaaWN
import Derived.Test.YtolljobehfmffaaWFootNe
import Derived.Test.YtolljobehfmffaaWAt
import Derived.Test.YtolljobehfmffaaWEqStruct
import Derived.Test.YtolljobehfmffaaWRepsOne
import Derived.Test.YtolljobehfmffaaWInv
import Derived.Test.YtolljobehfmffaaWInvWords
import Derived.Test.YtolljobehfmffaaWGuard
import Derived.Test.YtolljobehfmffaaWNEv
import Derived.Test.YtolljobehfmffaaWMore
namespace Go.Proofs.Ytolljobehfmffaa.P
open Go.RowKit Go.Proofs.YtolljobehfmffaaW.PrintWords Go.Proofs.YtolljobehfmffaaW.PrintLast Go.Proofs.YtolljobehfmffaaW.PrintMore
attribute [local go_sem] max2_int min2_int max_two min_two max_three min_three max_four min_four   -- for this text's walks alone
set_option linter.unusedVariables false
set_option linter.unusedSimpArgs false



def errW : Option Int → Value
  | none => .nilIface
  | some c => .iface 0 (.int .i64 c)
theorem errW_none : errW none = .nilIface := rfl
theorem errW_some (c : Int) : errW (some c) = .iface 0 (.int .i64 c) := rfl

theorem info5 : (Try.prog.info? 5).map (fun i => (i.zero, i.size, i.bytes)) = some (some (.int .u8 0), 1, 1) := by kernel_rfl
-- the values' own types

end Go.Proofs.Ytolljobehfmffaa.P
