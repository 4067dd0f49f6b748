-- Written by a program of this session (wip/myprint.py); Lean checks it.
import Derived.Test.YtfidfiacjocooaaProg
import Derived.Below
import Derived.Deep.Draws
import Derived.Deep.AppendLies
import Derived.Maps.AppendAt
import Derived.OwnWalk
import Derived.Laws.BytesArg
import Derived.Laws.MakeOwn
import Derived.Laws.OwnMore
import Derived.Deep.OwnRows
import Derived.Tactics
import Derived.Lib.ConvBytes
import Derived.Laws.Slices
import Derived.WalkKit
import Derived.KernelRfl
import Derived.RowKit3
import Derived.Deep.LoopGhost
import Derived.Deep.QuietTactic
import Derived.BigQuiet
import Derived.WideLaws
import Derived.Deep.DeepCutAuto
import Derived.Deep.CutBlock
import Derived.Deep.RegionHeld3
import Derived.Laws.Rows
import Derived.Lib.AppendStr
import Derived.ArgAppend
import Derived.Laws.IdiomCopy
import Derived.OrdersHeld
import Derived.Laws.BitsLemmas
import Derived.RowKit
import Derived.Shelf.Spec.BitsCarry
import Derived.Test.YtfidfiacjocooaaWWords
import Derived.Test.YtfidfiacjocooaaWLast
import Derived.Test.YtfidfiacjocooaaWTab
import Derived.Test.YtfidfiacjocooaaWFour
import Derived.Test.YtfidfiacjocooaaWQPut
import Derived.Test.YtfidfiacjocooaaWApart
import Derived.Test.YtfidfiacjocooaaWArr
import Derived.Test.YtfidfiacjocooaaWZeros
import Derived.Test.YtfidfiacjocooaaWFoot
import Derived.Test.YtfidfiacjocooaaWKept
import Derived.Test.YtfidfiacjocooaaWShare
import Derived.Test.YtfidfiacjocooaaWN
import Derived.Test.YtfidfiacjocooaaWFootNe
import Derived.Test.YtfidfiacjocooaaWAt
import Derived.Test.YtfidfiacjocooaaWEqStruct
import Derived.Test.YtfidfiacjocooaaWRepsOne
import Derived.Test.YtfidfiacjocooaaWInv
import Derived.Test.YtfidfiacjocooaaWInvWords
import Derived.Test.YtfidfiacjocooaaWGuard
import Derived.Test.YtfidfiacjocooaaWNEv
import Derived.Test.YtfidfiacjocooaaWMore
namespace Go.Proofs.Ytfidfiacjocooaa.QFnExactGetAddr
open Go.RowKit Go.Proofs.YtfidfiacjocooaaW.PrintWords Go.Proofs.YtfidfiacjocooaaW.PrintLast Go.Proofs.YtfidfiacjocooaaW.PrintMore
attribute [local go_sem] max2_int min2_int max_two min_two max_three min_three max_four min_four   -- for this text's walks alone
set_option linter.unusedVariables false
set_option linter.unusedSimpArgs false



def errW : Option Int → Value
  | none => .nilIface
  | some c => .iface 0 (.int .i64 c)
theorem errW_none : errW none = .nilIface := rfl
theorem errW_some (c : Int) : errW (some c) = .iface 0 (.int .i64 c) := rfl

theorem isSome_setCell (w : World) (a b : Addr) (v : Value) : ((w.setCell a v).cell? b).isSome = (w.cell? b).isSome := by
  by_cases h : a = b
  · subst h
    simp only [World.setCell, World.cell?, Array.getElem?_modify, if_true]
    cases hh : w.heap[a.block]? with
    | none => rfl
    | some x =>
      cases x with
      | cells c e f =>
        simp only [Option.map_some]
        cases hs : a.spot.isSome with
        | true => rfl
        | false =>
          by_cases hl : a.off < c.size
          · simp [hl]
          · simp [hl]
      | _ => rfl
  · rw [World.cell?_setCell_other w a b v h]
theorem info5 : (Try.prog.info? 5).map (fun i => (i.zero, i.size, i.bytes)) = some (some (.int .u8 0), 1, 1) := by kernel_rfl
-- the values' own types

end Go.Proofs.Ytfidfiacjocooaa.QFnExactGetAddr
