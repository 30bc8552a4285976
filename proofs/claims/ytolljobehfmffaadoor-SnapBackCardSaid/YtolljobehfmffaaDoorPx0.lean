-- WRITTEN BY A PROGRAM OF THIS SESSION (wip/pp in its repo), made after the kit's print
import Derived.Test.YtolljobehfmffaaDoorProg
import Derived.Below
import Derived.Deep.Draws
import Derived.Deep.AppendLies
import Derived.Maps.AppendAt
import Derived.OwnWalk
import Derived.Laws.BytesArg
import Derived.Laws.MakeOwn
import Derived.Laws.OwnMore
import Derived.Deep.OwnRows
import Derived.Tactics
import Derived.Lib.ConvBytes
import Derived.Laws.Slices
import Derived.WalkKit
import Derived.KernelRfl
import Derived.RowKit3
import Derived.Deep.LoopGhost
import Derived.Deep.QuietTactic
import Derived.BigQuiet
import Derived.WideLaws
import Derived.Deep.DeepCutAuto
import Derived.Deep.CutBlock
import Derived.Deep.RegionHeld3
import Derived.Laws.Rows
import Derived.Lib.AppendStr
import Derived.ArgAppend
import Derived.Laws.IdiomCopy
import Derived.OrdersHeld
import Derived.Laws.BitsLemmas
import Derived.RowKit
import Derived.ScopeJumps
import Derived.WalkMore
import Derived.Lib.OthersKept
import Derived.Deep.QuietTactic
import Derived.BigQuiet
import Derived.Test.YtolljobehfmffaaDoorTabs
import Derived.Test.YtolljobehfmffaaDoorText
import Derived.Test.YtolljobehfmffaaDoorTextEnc
import Derived.Test.YtolljobehfmffaaDoorRunes
import Derived.Test.YtolljobehfmffaaDoorWWords
import Derived.Test.YtolljobehfmffaaDoorWLast
import Derived.Test.YtolljobehfmffaaDoorWTab
import Derived.Test.YtolljobehfmffaaDoorWFour
import Derived.Test.YtolljobehfmffaaDoorWQPut
import Derived.Test.YtolljobehfmffaaDoorWApart
import Derived.Test.YtolljobehfmffaaDoorWArr
import Derived.Test.YtolljobehfmffaaDoorWZeros
import Derived.Test.YtolljobehfmffaaDoorWFoot
import Derived.Test.YtolljobehfmffaaDoorWKept
import Derived.Test.YtolljobehfmffaaDoorWShare
import Derived.Test.YtolljobehfmffaaDoorWN
import Derived.Test.YtolljobehfmffaaDoorWFootNe
import Derived.Test.YtolljobehfmffaaDoorWAt
import Derived.Test.YtolljobehfmffaaDoorWEqStruct
import Derived.Test.YtolljobehfmffaaDoorWRepsOne
import Derived.Test.YtolljobehfmffaaDoorWInv
import Derived.Test.YtolljobehfmffaaDoorWInvWords
import Derived.Test.YtolljobehfmffaaDoorWGuard
import Derived.Test.YtolljobehfmffaaDoorWNEv
import Derived.Test.YtolljobehfmffaaDoorWMore
namespace Go.Proofs.YtolljobehfmffaaDoor.P
open Go.RowKit Go.Proofs.YtolljobehfmffaaDoorW.PrintWords Go.Proofs.YtolljobehfmffaaDoorW.PrintLast Go.Proofs.YtolljobehfmffaaDoorW.PrintMore
attribute [local go_sem] max2_int min2_int max_two min_two max_three min_three max_four min_four   -- for this text's walks alone
set_option linter.unusedVariables false
set_option linter.unusedSimpArgs false



def errW : Option Int → Value
  | none => .nilIface
  | some c => .iface 0 (.int .i64 c)
theorem errW_none : errW none = .nilIface := rfl
theorem errW_some (c : Int) : errW (some c) = .iface 0 (.int .i64 c) := rfl

theorem info3 : (Tryd.prog.info? 3).map (fun i => (i.zero, i.size, i.bytes)) = some (some (.int .i64 0), 1, 8) := by kernel_rfl
theorem info5 : (Tryd.prog.info? 5).map (fun i => (i.zero, i.size, i.bytes)) = some (some (.int .u8 0), 1, 1) := by kernel_rfl
theorem info21 : (Tryd.prog.info? 21).map (fun i => (i.zero, i.size, i.bytes)) = some (some (.int .i32 0), 1, 4) := by kernel_rfl
-- the values' own types

end Go.Proofs.YtolljobehfmffaaDoor.P
