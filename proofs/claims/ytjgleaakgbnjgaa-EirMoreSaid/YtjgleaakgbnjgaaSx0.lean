/- What a function computes, and that its call comes to that. Conditions: as each theorem names. -/
import Derived.Test.YtjgleaakgbnjgaaStar
import Derived.Test.YtjgleaakgbnjgaaXWalk
import Derived.Below
import Derived.Deep.Draws
import Derived.Deep.AppendLies
import Derived.Maps.AppendAt
import Derived.OwnWalk
import Derived.Laws.BytesArg
import Derived.Laws.MakeOwn
import Derived.Laws.OwnMore
import Derived.Deep.OwnRows
import Derived.Tactics
import Derived.Lib.ConvBytes
import Derived.Laws.Slices
import Derived.WalkKit
import Derived.KernelRfl
import Derived.RowKit3
import Derived.Deep.LoopGhost
import Derived.Deep.QuietTactic
import Derived.BigQuiet
import Derived.WideLaws
import Derived.Deep.DeepCutAuto
import Derived.Deep.CutBlock
import Derived.Deep.RegionHeld3
import Derived.Laws.Rows
import Derived.Lib.AppendStr
import Derived.ArgAppend
import Derived.Laws.IdiomCopy
import Derived.OrdersHeld
import Derived.Laws.BitsLemmas
import Derived.RowKit
import Derived.Test.YtjgleaakgbnjgaaBigMath
import Derived.Test.YtjgleaakgbnjgaaWWords
import Derived.Test.YtjgleaakgbnjgaaWLast
import Derived.Test.YtjgleaakgbnjgaaWTab
import Derived.Test.YtjgleaakgbnjgaaWFour
import Derived.Test.YtjgleaakgbnjgaaWQPut
import Derived.Test.YtjgleaakgbnjgaaWApart
import Derived.Test.YtjgleaakgbnjgaaWArr
import Derived.Test.YtjgleaakgbnjgaaWZeros
import Derived.Test.YtjgleaakgbnjgaaWFoot
import Derived.Test.YtjgleaakgbnjgaaWKept
import Derived.Test.YtjgleaakgbnjgaaWShare
import Derived.Test.YtjgleaakgbnjgaaWN
import Derived.Test.YtjgleaakgbnjgaaWFootNe
import Derived.Test.YtjgleaakgbnjgaaWAt
import Derived.Test.YtjgleaakgbnjgaaWEqStruct
import Derived.Test.YtjgleaakgbnjgaaWRepsOne
import Derived.Test.YtjgleaakgbnjgaaWInv
import Derived.Test.YtjgleaakgbnjgaaWInvWords
import Derived.Test.YtjgleaakgbnjgaaWGuard
import Derived.Test.YtjgleaakgbnjgaaWNEv
import Derived.Test.YtjgleaakgbnjgaaWMore
set_option linter.unusedSimpArgs false
set_option linter.unusedVariables false
namespace Go.Proofs.Ytjgleaakgbnjgaa.S
open Go.RowKit Go.Proofs.YtjgleaakgbnjgaaW.PrintWords Go.Proofs.YtjgleaakgbnjgaaW.PrintLast Go.Proofs.YtjgleaakgbnjgaaW.PrintMore
attribute [local go_sem] max2_int min2_int max_two min_two max_three min_three max_four min_four
attribute [local go_sem] XWalk.cell2
def errW : Option Int → Value
 | none => .nilIface
 | some c => .iface 0 (.int .i64 c)
theorem errW_none : errW none = .nilIface := rfl
theorem errW_some (c : Int) : errW (some c) = .iface 0 (.int .i64 c) := rfl
theorem info2 : (Star.prog.info? 2).map (fun i => (i.zero, i.size, i.bytes)) = some (some (.int .i64 0), 1, 8) := by kernel_rfl
structure S30 where
 f0 : Int
 f1 : Int
 f2 : (List Int)
 f3 : Int
def k30 : Kd S30 := Kd.iso (Kd.pair (Kd.int .i64) (Kd.pair (Kd.int .i64) (Kd.pair (Kd.slice 2 (Kd.int .i64)) (Kd.int .u8)))) (fun x : S30 => (x.f0, x.f1, x.f2, x.f3))
theorem k30_open {w : World} {x : S30} {cs : List Value} (h : k30.K w x cs) : ∃ A2 c2, cs = [.int .i64 x.f0, .int .i64 x.f1, .slice A2 x.f2.length c2, .int .u8 x.f3] ∧ x.f2.length ≤ c2 ∧ (Kd.int .i64).C w A2 x.f2.length x.f2 := by
 obtain ⟨_, _, rfl, rfl, ⟨_, _, rfl, rfl, ⟨_, _, rfl, ⟨A2, c2, rfl, l2, g2⟩, rfl⟩⟩⟩ := h
 exact ⟨A2, c2, rfl, l2, g2⟩
structure S34 where
 f0 : Int
 f1 : (List Int)
 f2 : Int
 f3 : (List Int)
structure S38 where
 f0 : Int
 f1 : (List Int)
 f2 : Int
 f3 : Int
structure S59 where
 f0 : Int
 f1 : Int
 f2 : Int
 f3 : Int
structure S52 where
 f0 : Int
 f1 : Int
 f2 : Int
 f3 : Int
structure S47 where
 f0 : Int
 f1 : Int
 f2 : Int
 f3 : Int
structure S67 where
 f0 : Int
 f1 : Int
 f2 : Int
 f3 : Int
end Go.Proofs.Ytjgleaakgbnjgaa.S
