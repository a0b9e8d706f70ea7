/- What a function computes, and that its call comes to that. Conditions: as each theorem names. -/
import Derived.Test.YtjgleaakgbnjgaaStar
import Derived.Test.YtjgleaakgbnjgaaXWalk
import Derived.Below
import Derived.Deep.Draws
import Derived.Deep.AppendLies
import Derived.Maps.AppendAt
import Derived.OwnWalk
import Derived.Laws.BytesArg
import Derived.Laws.MakeOwn
import Derived.Laws.OwnMore
import Derived.Deep.OwnRows
import Derived.Tactics
import Derived.Lib.ConvBytes
import Derived.Laws.Slices
import Derived.WalkKit
import Derived.KernelRfl
import Derived.RowKit3
import Derived.Deep.LoopGhost
import Derived.Deep.QuietTactic
import Derived.BigQuiet
import Derived.WideLaws
import Derived.Deep.DeepCutAuto
import Derived.Deep.CutBlock
import Derived.Deep.RegionHeld3
import Derived.Laws.Rows
import Derived.Lib.AppendStr
import Derived.ArgAppend
import Derived.Laws.IdiomCopy
import Derived.OrdersHeld
import Derived.Laws.BitsLemmas
import Derived.RowKit
import Derived.Test.YtjgleaakgbnjgaaBigMath
import Derived.Test.YtjgleaakgbnjgaaWWords
import Derived.Test.YtjgleaakgbnjgaaWLast
import Derived.Test.YtjgleaakgbnjgaaWTab
import Derived.Test.YtjgleaakgbnjgaaWFour
import Derived.Test.YtjgleaakgbnjgaaWQPut
import Derived.Test.YtjgleaakgbnjgaaWApart
import Derived.Test.YtjgleaakgbnjgaaWArr
import Derived.Test.YtjgleaakgbnjgaaWZeros
import Derived.Test.YtjgleaakgbnjgaaWFoot
import Derived.Test.YtjgleaakgbnjgaaWKept
import Derived.Test.YtjgleaakgbnjgaaWShare
import Derived.Test.YtjgleaakgbnjgaaWN
import Derived.Test.YtjgleaakgbnjgaaWFootNe
import Derived.Test.YtjgleaakgbnjgaaWAt
import Derived.Test.YtjgleaakgbnjgaaWEqStruct
import Derived.Test.YtjgleaakgbnjgaaWRepsOne
import Derived.Test.YtjgleaakgbnjgaaWInv
import Derived.Test.YtjgleaakgbnjgaaWInvWords
import Derived.Test.YtjgleaakgbnjgaaWGuard
import Derived.Test.YtjgleaakgbnjgaaWNEv
import Derived.Test.YtjgleaakgbnjgaaWMore
set_option linter.unusedSimpArgs false
set_option linter.unusedVariables false
namespace Go.Proofs.Ytjgleaakgbnjgaa.S
open Go.RowKit Go.Proofs.YtjgleaakgbnjgaaW.PrintWords Go.Proofs.YtjgleaakgbnjgaaW.PrintLast Go.Proofs.YtjgleaakgbnjgaaW.PrintMore
attribute [local go_sem] max2_int min2_int max_two min_two max_three min_three max_four min_four
attribute [local go_sem] XWalk.cell2
def errW : Option Int → Value
 | none => .nilIface
 | some c => .iface 0 (.int .i64 c)
theorem errW_none : errW none = .nilIface := rfl
theorem errW_some (c : Int) : errW (some c) = .iface 0 (.int .i64 c) := rfl
theorem info2 : (Star.prog.info? 2).map (fun i => (i.zero, i.size, i.bytes)) = some (some (.int .i64 0), 1, 8) := by kernel_rfl
structure S30 where
 f0 : Int
 f1 : Int
 f2 : (List Int)
 f3 : Int
structure S34 where
 f0 : Int
 f1 : (List Int)
 f2 : Int
 f3 : (List Int)
def k34 : Kd S34 := Kd.iso (Kd.pair (Kd.int .i64) (Kd.pair (Kd.slice 2 (Kd.int .i64)) (Kd.pair (Kd.int .u8) (Kd.slice 35 (Kd.int .u16))))) (fun x : S34 => (x.f0, x.f1, x.f2, x.f3))
theorem k34_open {w : World} {x : S34} {cs : List Value} (h : k34.K w x cs) : ∃ A1 c1 A3 c3, cs = [.int .i64 x.f0, .slice A1 x.f1.length c1, .int .u8 x.f2, .slice A3 x.f3.length c3] ∧ x.f1.length ≤ c1 ∧ (Kd.int .i64).C w A1 x.f1.length x.f1 ∧ x.f3.length ≤ c3 ∧ (Kd.int .u16).C w A3 x.f3.length x.f3 := by
 obtain ⟨_, _, rfl, rfl, ⟨_, _, rfl, ⟨A1, c1, rfl, l1, g1⟩, ⟨_, _, rfl, rfl, ⟨A3, c3, rfl, l3, g3⟩⟩⟩⟩ := h
 exact ⟨A1, c1, A3, c3, rfl, l1, g1, l3, g3⟩
structure S38 where
 f0 : Int
 f1 : (List Int)
 f2 : Int
 f3 : Int
structure S59 where
 f0 : Int
 f1 : Int
 f2 : Int
 f3 : Int
structure S52 where
 f0 : Int
 f1 : Int
 f2 : Int
 f3 : Int
structure S47 where
 f0 : Int
 f1 : Int
 f2 : Int
 f3 : Int
structure S67 where
 f0 : Int
 f1 : Int
 f2 : Int
 f3 : Int
end Go.Proofs.Ytjgleaakgbnjgaa.S
