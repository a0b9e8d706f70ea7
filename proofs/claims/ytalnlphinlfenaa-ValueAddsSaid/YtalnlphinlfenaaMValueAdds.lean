/- The statement ValueAddsSaid: for every input the law returns true, and each argument reads afterwards as it read before. Conditions: none. -/
import Derived.Test.YtalnlphinlfenaaSx0
import Derived.Test.YtalnlphinlfenaaMValueAdds1
import Derived.Test.YtalnlphinlfenaaXWide
import Derived.Test.YtalnlphinlfenaaSxRateOverRateYield
import Derived.Test.YtalnlphinlfenaaSxRateDiscount
import Derived.Test.YtalnlphinlfenaaSxSlicesReverseInt64Int64
import Derived.Test.YtalnlphinlfenaaSxValueTimes2
import Derived.RangeFuncNested
import Derived.RangeFuncBox
import Derived.RangeFuncLeaves
import Derived.RangeFuncCalls
import Derived.Shelf.Abstract
import Derived.OwnWalkIn
import Derived.TacticsInMore
import Derived.LoopNIn
import Derived.LoopIn
import Derived.Maps.AppendAt
import Derived.RegionIn
import Derived.OrdersHeld
import Derived.Test.YtalnlphinlfenaaSxRateMay
import Derived.Test.YtalnlphinlfenaaSxMathBitsAdd64
import Derived.Test.YtalnlphinlfenaaSxMoneyTold
import Derived.SizedLaws
import Derived.ChangeSlices
import Derived.Test.YtalnlphinlfenaaRows
import Derived.WalkKit
import Derived.ProofKit
import Derived.OpenShut
import Derived.ShutString
import Derived.ChangeOld
import Derived.Below
section
namespace Go.Proofs.Ytalnlphinlfenaa.S
open Go.RowKit Go.Proofs.YtalnlphinlfenaaW.PrintWords Go.Proofs.YtalnlphinlfenaaW.PrintLast Go.Proofs.YtalnlphinlfenaaW.PrintMore
attribute [local go_sem] max2_int min2_int max_two min_two max_three min_three max_four min_four   -- for this text's walks alone
attribute [local go_sem] Go.Proofs.Ytalnlphinlfenaa.XWalk.cell2
set_option linter.unusedVariables false
set_option linter.unusedSimpArgs false

/-! ### value_times_1: function 53 -/
def value_times_1.f (a0 : Int) : Option (Bool) := (money_May.f a0).bind fun t285 => (some (!t285))
set_option maxHeartbeats 8000000 in
set_option maxRecDepth 100000 in
theorem value_times_1.calls (a0 : Int) (r : Bool) (w : World) (h : value_times_1.f a0 = some r) :
    Calls Try.prog 53 #[.int .i64 a0] w fun e w' => e = .returned (.bool r) ∧ Drawn0 w w' := by
  have H : ((money_May.f a0).bind fun t285 => (some (!t285))) = some r := h
  clear h
  replace H := Option.bind_eq_some_iff.mp H
  obtain ⟨t285, A20, H⟩ := H
  replace H : (some (!t285)) = some r := H
  have A2 := Aside0.mk A20
  clear A20
  obtain rfl := Option.some.inj H
  go_enter Try.func53, Try.ntmps53
  go_wp2_with (first | ((with_reducible refine gate_callee (f := 54) rfl ?_); refine goesL_ (some 4) rfl rfl Try.func54 (by kernel_rfl) rfl #[.int .i64 a0] rfl (by (try simp only [List.map_toArray, List.map_cons, List.map_nil]); first | done | rfl | (simp only [List.length_drop, List.length_take]; rfl)) ?_; (with_reducible refine (money_May.calls a0 t285 _ A2.out).mono ?_); rintro e w' ⟨rfl, ⟨nd, rfl⟩⟩; refine ⟨_, rfl, ?_⟩))
  go_ret
  exact ⟨by first | rfl | (simp; done) | (simp [*]; done), by repeat (first | exact Drawn0.refl _ | apply Drawn0.step)⟩

end Go.Proofs.Ytalnlphinlfenaa.S
end

section
namespace Go.Proofs.Ytalnlphinlfenaa.S
open Go.RowKit Go.Proofs.YtalnlphinlfenaaW.PrintWords Go.Proofs.YtalnlphinlfenaaW.PrintLast Go.Proofs.YtalnlphinlfenaaW.PrintMore
attribute [local go_sem] max2_int min2_int max_two min_two max_three min_three max_four min_four   -- for this text's walks alone
attribute [local go_sem] Go.Proofs.Ytalnlphinlfenaa.XWalk.cell2
set_option linter.unusedVariables false
set_option linter.unusedSimpArgs false

/-! ### slices_IndexFunc_int64_int64__value_times_1: function 61 -/
def slices_IndexFunc_int64_int64__value_times_1.l0 : Nat → List Int → Int → Int → Option (Int)
  | 0, _, _, _ => none
  | k + 1, x0, x7, x8 => if x8 < x7 then (if 0 ≤ x8 then (if x8 < (x0.length : Int) then ((value_times_1.f (rd x0 x8)).bind fun t306 => (if t306 = true then (some x8) else (slices_IndexFunc_int64_int64__value_times_1.l0 k x0 x7 (wrap64 (x8 + 1))))) else (none)) else (none)) else (some (-1))
def slices_IndexFunc_int64_int64__value_times_1.f (k : Nat) (l0 : List Int)  : Option (Int) := slices_IndexFunc_int64_int64__value_times_1.l0 k l0 (l0.length : Int) 0
set_option maxHeartbeats 8000000 in
set_option maxRecDepth 100000 in
theorem slices_IndexFunc_int64_int64__value_times_1.calls (k : Nat) (A0 : Option Addr) (c0 : Nat) (l0 : List Int)  (r : Int) (w : World) (hr0 : Kd.C (Kd.int .i64) w A0 l0.length l0) (hc0 : l0.length ≤ c0) (h : slices_IndexFunc_int64_int64__value_times_1.f k l0 = some r) :
    Calls Try.prog 61 #[.slice A0 l0.length c0, .func (.func 53) #[] #[]] w fun e w' => e = .returned (.int .i64 r) ∧ Below w.heap.size w w' := by
  have HR0 := Aside0.mk hr0
  have HC0 := Aside0.mk hc0
  clear hr0 hc0
  have HB := Aside0.mk (Below.refl w.heap.size w)
  have H : (slices_IndexFunc_int64_int64__value_times_1.l0 k l0 (l0.length : Int) 0) = some r := h
  clear h
  have H' := Aside0.mk H
  clear H
  go_enter Try.func61, Try.ntmps61
  go_wp2
  go_loopg [8] k (fun kq v8 w' => ∃ (x8_1 : Int), v8 = .int .i64 x8_1 ∧ Aside0 (slices_IndexFunc_int64_int64__value_times_1.l0 kq l0 (l0.length : Int) x8_1 = some r) ∧ Aside0 (kq ≤ k) ∧ Aside0 (Below w.heap.size w w'))
  case atStart => exact ⟨(0), (by first | rfl | (simp; done) | (simp [*]; done)), H', ⟨Nat.le_refl _⟩, ⟨by repeat (first | (with_reducible first | exact HB.out | apply below_alloc | apply pw_below_drewN | apply below_drew1) | exact HB.out)⟩⟩
  case round =>
    clear H'
    try clear p2
    obtain ⟨x8_1, rfl, HA, HK1, HB⟩ := hrel
    cases gk with
    | zero => exact absurd HA.out (by simp [slices_IndexFunc_int64_int64__value_times_1.l0])
    | succ k1 =>
      have H := HA.out
      clear HA
      simp only [slices_IndexFunc_int64_int64__value_times_1.l0] at H
      by_cases c3 : x8_1 < (l0.length : Int)
      · rw [if_pos c3] at H
        have c3b0 : decide (x8_1 < (l0.length : Int)) = true := decide_eq_true c3
        clear c3
        by_cases c4 : 0 ≤ x8_1
        · rw [if_pos c4] at H
          have c4b0 : decide (0 ≤ x8_1) = true := decide_eq_true c4
          clear c4
          by_cases c5 : x8_1 < (l0.length : Int)
          · rw [if_pos c5] at H
            have c5b0 : decide (x8_1 < (l0.length : Int)) = true := decide_eq_true c5
            clear c5
            replace H := Option.bind_eq_some_iff.mp H
            obtain ⟨t306, A60, H⟩ := H
            replace H : (if t306 = true then (some x8_1) else (slices_IndexFunc_int64_int64__value_times_1.l0 k1 l0 (l0.length : Int) (wrap64 (x8_1 + 1)))) = some r := H
            have A6 := Aside0.mk A60
            clear A60
            by_cases c7 : t306 = true
            · subst c7
              have H1 : (some x8_1) = some r := by rw [if_pos rfl] at H; exact H
              clear H
              have H := H1
              clear H1
              obtain rfl := Option.some.inj H
              have p305 : 0 ≤ (x8_1 : Int) := of_decide_eq_true (by first | (with_reducible assumption) | assumption)
              have q305 : x8_1 < (l0.length : Int) := of_decide_eq_true (by first | (with_reducible assumption) | assumption)
              obtain ⟨ad305, e305, hx305_0⟩ := Kd.at_int HR0.out x8_1 p305 q305
              cases e305
              try replace hx305_0 := (HB.out.cell (World.block_lt_of_cell? w _ hx305_0)).trans hx305_0
              replace p305 := eq_true p305
              replace q305 := eq_true q305
              go_wp2_with (first | (go_at_call 53; (with_reducible refine (value_times_1.calls (rd l0 x8_1) true _ A6.out).mono ?_); rintro e w' ⟨rfl, ⟨nd, rfl⟩⟩))
              go_ret
              exact ⟨by first | rfl | (simp [errW_none, errW_some] <;> rfl) | (simp [*, errW_none, errW_some] <;> rfl), by repeat (first | (with_reducible first | exact HB.out | apply below_alloc | apply pw_below_drewN | apply below_drew1) | exact HB.out)⟩
            · replace c7 := Bool.eq_false_iff.mpr c7
              subst c7
              have H1 : (slices_IndexFunc_int64_int64__value_times_1.l0 k1 l0 (l0.length : Int) (wrap64 (x8_1 + 1))) = some r := by rw [if_neg (show ¬ (false = true) by decide)] at H; exact H
              clear H
              have H := H1
              clear H1
              have H' := Aside0.mk H
              clear H
              have p305 : 0 ≤ (x8_1 : Int) := of_decide_eq_true (by first | (with_reducible assumption) | assumption)
              have q305 : x8_1 < (l0.length : Int) := of_decide_eq_true (by first | (with_reducible assumption) | assumption)
              obtain ⟨ad305, e305, hx305_0⟩ := Kd.at_int HR0.out x8_1 p305 q305
              cases e305
              try replace hx305_0 := (HB.out.cell (World.block_lt_of_cell? w _ hx305_0)).trans hx305_0
              replace p305 := eq_true p305
              replace q305 := eq_true q305
              go_wp2_with (first | (go_at_call 53; (with_reducible refine (value_times_1.calls (rd l0 x8_1) false _ A6.out).mono ?_); rintro e w' ⟨rfl, ⟨nd, rfl⟩⟩))
              go_roundg k1
              case measure => have := HK1.out; omega
              case rel => exact ⟨(wrap64 (x8_1 + 1)), (by first | rfl | (simp; done) | (simp [*]; done)), H', ⟨by have := HK1.out; omega⟩, ⟨by repeat (first | (with_reducible first | exact HB.out | apply below_alloc | apply pw_below_drewN | apply below_drew1) | exact HB.out)⟩⟩
          · rw [if_neg c5] at H
            exact absurd H (by simp)
        · rw [if_neg c4] at H
          exact absurd H (by simp)
      · rw [if_neg c3] at H
        have c3b0 : decide (x8_1 < (l0.length : Int)) = false := decide_eq_false c3
        clear c3
        obtain rfl := Option.some.inj H
        go_wp2
        go_ret
        exact ⟨by first | rfl | (simp [errW_none, errW_some] <;> rfl) | (simp [*, errW_none, errW_some] <;> rfl), by repeat (first | (with_reducible first | exact HB.out | apply below_alloc | apply pw_below_drewN | apply below_drew1) | exact HB.out)⟩

end Go.Proofs.Ytalnlphinlfenaa.S
end

section
namespace Go.Proofs.Ytalnlphinlfenaa.S
open Go.RowKit Go.Proofs.YtalnlphinlfenaaW.PrintWords Go.Proofs.YtalnlphinlfenaaW.PrintLast Go.Proofs.YtalnlphinlfenaaW.PrintMore
attribute [local go_sem] max2_int min2_int max_two min_two max_three min_three max_four min_four   -- for this text's walks alone
attribute [local go_sem] Go.Proofs.Ytalnlphinlfenaa.XWalk.cell2
set_option linter.unusedVariables false
set_option linter.unusedSimpArgs false

/-! ### slices_ContainsFunc_int64_int64__value_times_1: function 55 -/
def slices_ContainsFunc_int64_int64__value_times_1.f (k : Nat) (l0 : List Int)  : Option (Bool) := (slices_IndexFunc_int64_int64__value_times_1.f k l0).bind fun t307 => (some (decide (t307 ≥ 0)))
set_option maxHeartbeats 8000000 in
set_option maxRecDepth 100000 in
theorem slices_ContainsFunc_int64_int64__value_times_1.calls (k : Nat) (A0 : Option Addr) (c0 : Nat) (l0 : List Int)  (r : Bool) (w : World) (hr0 : Kd.C (Kd.int .i64) w A0 l0.length l0) (hc0 : l0.length ≤ c0) (h : slices_ContainsFunc_int64_int64__value_times_1.f k l0 = some r) :
    Calls Try.prog 55 #[.slice A0 l0.length c0, .func (.func 53) #[] #[]] w fun e w' => e = .returned (.bool r) ∧ Below w.heap.size w w' := by
  have HR0 := Aside0.mk hr0
  have HC0 := Aside0.mk hc0
  clear hr0 hc0
  have HB := Aside0.mk (Below.refl w.heap.size w)
  have H : ((slices_IndexFunc_int64_int64__value_times_1.f k l0).bind fun t307 => (some (decide (t307 ≥ 0)))) = some r := h
  clear h
  replace H := Option.bind_eq_some_iff.mp H
  obtain ⟨t307, A30, H⟩ := H
  replace H : (some (decide (t307 ≥ 0))) = some r := H
  have A3 := Aside0.mk A30
  clear A30
  obtain rfl := Option.some.inj H
  go_enter Try.func55, Try.ntmps55
  go_wp2_with (first | ((with_reducible refine gate_callee (f := 61) rfl ?_); refine goesL_ (some 7) rfl rfl Try.func61 (by kernel_rfl) rfl #[.slice A0 l0.length c0, .func (.func 53) #[] #[]] rfl (by (try simp only [List.map_toArray, List.map_cons, List.map_nil]); first | done | rfl | (simp only [List.length_drop, List.length_take]; rfl)) ?_; (with_reducible refine (slices_IndexFunc_int64_int64__value_times_1.calls k _ _ l0  t307 _ ?side1 ?side2 A3.out).mono ?_); (case side1 => repeat (first | exact HR0.out | (with_reducible refine Kd.C_alloc ?_ _) | (with_reducible refine Kd.C_drewN ?_ _) | (with_reducible refine Kd.C_drew ?_))); (case side2 => exact HC0.out); rintro e w4 ⟨rfl, hb⟩; refine ⟨_, rfl, ?_⟩; have n0_ := Aside0.mk (below_step (by repeat (first | (with_reducible first | exact HB.out | apply below_alloc | apply pw_below_drewN | apply below_drew1) | exact HB.out)) hb); clear HB; have HB := n0_; clear n0_; (try clear hb); (try clear hb2); (try clear hk); (try clear hi)))
  go_ret
  exact ⟨by first | rfl | (simp [errW_none, errW_some] <;> rfl) | (simp [*, errW_none, errW_some] <;> rfl), by repeat (first | (with_reducible first | exact HB.out | apply below_alloc | apply pw_below_drewN | apply below_drew1) | exact HB.out)⟩

end Go.Proofs.Ytalnlphinlfenaa.S
end

section
namespace Go.Proofs.Ytalnlphinlfenaa.XMdiv
set_option linter.unusedVariables false
set_option linter.unusedSimpArgs false
open Go.RowKit Go.Proofs.Ytalnlphinlfenaa.S Go.Proofs.Ytalnlphinlfenaa.XNum Go.Proofs.Ytalnlphinlfenaa.XBits Go.Proofs.Ytalnlphinlfenaa.XWide Go.Proofs.Ytalnlphinlfenaa.Rnd Go.Proofs.YtalnlphinlfenaaW.PrintWords

theorem rnd_n {A b : Int} (hb : 0 < b) : rnd A b 1 = near A b := by
  unfold rnd
  rw [if_neg (c := (1 : Int) = 0) (by omega), if_neg (c := b < 0) (by omega)]
/-- to the nearer one, by a number above 0 -/
theorem mdiv_n {A b : Int} (hb : 0 < b) : mdiv A b 1 = if I64 (near A b) then (near A b, 0) else (0, 3) := by
  unfold mdiv
  rw [if_neg (c := (1 : Int) < 0 ∨ (1 : Int) ≥ 2) (by omega), if_neg (c := b = 0) (by omega), rnd_n hb]
theorem mdiv_i64 (A b way : Int) : I64 (mdiv A b way).1 := by
  unfold mdiv
  split
  · exact ⟨by decide, by decide⟩
  · split
    · exact ⟨by decide, by decide⟩
    · split
      · assumption
      · exact ⟨by decide, by decide⟩
end Go.Proofs.Ytalnlphinlfenaa.XMdiv
end

section
namespace Go.Proofs.Ytalnlphinlfenaa.S
open Go.RowKit Go.Proofs.YtalnlphinlfenaaW.PrintWords Go.Proofs.YtalnlphinlfenaaW.PrintLast Go.Proofs.YtalnlphinlfenaaW.PrintMore
attribute [local go_sem] max2_int min2_int max_two min_two max_three min_three max_four min_four   -- for this text's walks alone
attribute [local go_sem] Go.Proofs.Ytalnlphinlfenaa.XWalk.cell2
set_option linter.unusedVariables false
set_option linter.unusedSimpArgs false

/-! ### rate_Interest: function 27 -/
def rate_Interest.f (k : Nat) (a0 : Int) (a1 : Int) : Option (Int × Int) := (rate_over_rate_yield.f k a0 a1).bind fun bt129 => (some (bt129.1, bt129.2))
end Go.Proofs.Ytalnlphinlfenaa.S
end

section
namespace Go.Proofs.Ytalnlphinlfenaa.XRate
set_option linter.unusedVariables false
set_option linter.unusedSimpArgs false
open Go.RowKit Go.Proofs.Ytalnlphinlfenaa.S Go.Proofs.Ytalnlphinlfenaa.XNum Go.Proofs.Ytalnlphinlfenaa.XBits Go.Proofs.Ytalnlphinlfenaa.XWide Go.Proofs.Ytalnlphinlfenaa.Rnd Go.Proofs.Ytalnlphinlfenaa.XMdiv Go.Proofs.YtalnlphinlfenaaW.PrintWords

/-- may a rate be? -/
def mayR (r : Int) : Prop := -990000000000 ≤ r ∧ r ≤ 10000000000000
instance (r : Int) : Decidable (mayR r) := inferInstanceAs (Decidable (_ ∧ _))
theorem may (r : Int) : rate_May.f r = some (decide (mayR r)) := by
  unfold rate_May.f
  by_cases c : mayR r
  · rw [decide_eq_true c]
    unfold mayR at c
    rw [if_pos (by omega), decide_eq_true (by omega)]
  · rw [decide_eq_false c]
    unfold mayR at c
    by_cases d : r ≥ -990000000000
    · rw [if_pos d, decide_eq_false (by omega)]
    · rw [if_neg d]

def interest (x r : Int) : Int × Int := if mayR r then mdiv (x * r) 1000000000000 1 else (0, 2)
def grow (x r : Int) : Int × Int := if mayR r then mdiv (x * (1000000000000 + r)) 1000000000000 1 else (0, 2)
def discount (x r : Int) : Int × Int := if mayR r then mdiv (x * 1000000000000) (1000000000000 + r) 1 else (0, 2)

theorem discount_f {x r : Int} (hx : I64 x) {k : Nat} (hk : 30 ≤ k) : rate_Discount.f k x r = some (discount x r) := by
  unfold rate_Discount.f rate_over_rate_back.f rate_back_terms.f
  rw [may]
  simp only [Option.bind_some]
  unfold discount
  by_cases c : mayR r
  · rw [decide_eq_true c, if_pos c]
    simp only [if_true]
    unfold mayR at c
    rw [w64 (by omega) (by omega), mulDiv hx ⟨by omega, by omega⟩ ⟨by omega, by omega⟩ hk]
    simp only [Option.bind_some]
  · rw [decide_eq_false c, if_neg c]
    simp
theorem discount_i64 (x r : Int) : I64 (discount x r).1 := by
  unfold discount
  split
  · exact mdiv_i64 _ _ _
  · exact ⟨by omega, by omega⟩
/-- a part of a rate -/
def part (r o all : Int) : Int × Int := if o < 0 ∨ all ≤ 0 then (0, 2) else mdiv (r * o) all 1
/-- what an amount grows to in n periods, or the first error -/
def powers (r : Int) : Nat → Int × Int
  | 0 => (1000000000000, 0)
  | n + 1 => if (powers r n).2 = 0 then grow (powers r n).1 r else powers r n
def power (r n : Int) : Int × Int := if mayR r ∧ 0 ≤ n ∧ n ≤ 600 then powers r n.toNat else (0, 2)
end Go.Proofs.Ytalnlphinlfenaa.XRate
end

section
namespace Go.Proofs.Ytalnlphinlfenaa.S
open Go.RowKit Go.Proofs.YtalnlphinlfenaaW.PrintWords Go.Proofs.YtalnlphinlfenaaW.PrintLast Go.Proofs.YtalnlphinlfenaaW.PrintMore
attribute [local go_sem] max2_int min2_int max_two min_two max_three min_three max_four min_four   -- for this text's walks alone
attribute [local go_sem] Go.Proofs.Ytalnlphinlfenaa.XWalk.cell2
set_option linter.unusedVariables false
set_option linter.unusedSimpArgs false

/-! ### value_fold_int64_int64__value_times_2: function 56 -/
section
attribute [local go_sem] Oper.semAt_some
section
variable {P : Program} {ops : Array Oper} {Q : Exit → Act → World → Prop} {md : Region.Mode}
/-- A region that draws its order, in a round of a loop over an iterator: as outside of it. -/
theorem region_oper {l n : Nat} {o : Oper} {a : Act} {w : World} {K : Act → World → Prop} (hd : ∀ c, o.op ≠ .defer c) (h : o.wp P a w K Q) : o.wpIn (Fence.wide.inRound l) n P a w K Q := by
  unfold Oper.wp at h
  refine ⟨fun _ _ => trivial, ?_⟩
  rw [show (Fence.wide.inRound l).round = some l from rfl, Oper.semAt_some l a.eval o hd]
  generalize (execOp a.eval o).run P w = r at *
  cases r with
  | ok x w' =>
    cases x <;> simp only [Oper.upon, Oper.uponIn] at h ⊢
    case value u => exact h
    case skip => exact h
    case defer d => exact h
    case enter f args => exact ⟨(fun q => absurd (show false = true from q) (by decide)), CallsIn.inRound l (callsIn_wide.2 h)⟩
    case row row args =>
      refine ⟨(fun q => absurd (show false = true from q) (by decide)), fun c cs _ => ?_⟩
      obtain ⟨v, w2, r, s⟩ := h c cs
      exact ⟨v, w2, r, stepsIn_wide.2 s⟩
  | halt x w' => cases x <;> simp only [Oper.upon, Oper.uponIn] at h ⊢; exact h
theorem region_op {l n i : Nat} {a : Act} {w : World} {K : Act → World → Prop} (hd : ∀ o, ops[i]? = some o → ∀ c, o.op ≠ .defer c) (hQ : ¬ LetsOut Q) (h : wpOp P ops Q i K a w) : wpOpIn (Fence.wide.inRound l) n P ops Q i K a w := by
  unfold wpOp at h
  unfold wpOpIn
  cases ho : ops[i]? with
  | none => simpa [ho] using h
  | some o =>
    simp only [ho] at h ⊢
    split
    · rename_i hw
      simp only [hw, if_true] at h
      exact region_oper (hd o ho) (h.resolve_right fun q => hQ q.2)
    · rename_i hw
      simp only [hw] at h
      exact ⟨fun _ _ => trivial, h⟩
theorem region_any {l n : Nat} (hd : ∀ (i : Nat) (o : Oper), ops[i]? = some o → ∀ c, o.op ≠ .defer c) (hQ : ¬ LetsOut Q) : ∀ (fuel : Nat) (listed : Array Bool) (a : Act) (w : World), wpAny P md ops Q fuel listed a w → wpAnyIn (Fence.wide.inRound l) n P md ops Q fuel listed a w
  | 0, _, _, _, h => h
  | fuel + 1, _, _, _, h => ⟨h.1, fun i hi => wpOpIn_mono (fun a' w' h' => region_any hd hQ fuel _ a' w' h') (region_op (hd i) hQ (h.2 i hi))⟩
def plainOp : Op → Bool
  | .defer _ => false
  | _ => true
theorem region_lone {l n id : Nat} {S : World → Prop} {a : Act} {w : World} (hm : P.follows .mixedOrders = true) (hd' : (ops.all fun o => plainOp o.op) = true) (hQ : ¬ LetsOut Q)
    (h : wpAnyH P .any ops Q S ops.size (Array.replicate ops.size false) a { w with drawn := w.drawn + 1 }) : (Code.region id ops true).wpIn (Fence.wide.inRound l) n P Q a w := by
  have hd : ∀ (i : Nat) (o : Oper), ops[i]? = some o → ∀ c, o.op ≠ .defer c := fun i o ho c e => by
    rw [Array.all_eq_true] at hd'
    obtain ⟨hi, rfl⟩ := Array.getElem?_eq_some_iff.1 ho
    have := hd' i hi
    rw [e] at this
    cases this
  exact wpIn_region_any hm (region_any hd hQ _ _ _ _ (wpAny_of_held _ _ _ _ h))
end
section
open Go.Proofs.YtalnlphinlfenaaW.PrintLast
theorem region_norm {P : Program} {md : Region.Mode} {ops : Array Oper} {Q : Exit → Act → World → Prop} {S : World → Prop} {fuel : Nat} {l : Array Bool} {a a' : Act} {w : World} (ha : a = a') (h : wpAnyH P md ops Q S fuel l a' w) : wpAnyH P md ops Q S fuel l a w := ha ▸ h
/-- A call by a function value that captures, in a region that draws its order. -/
theorem region_callV {P : Program} {ops : Array Oper} {Q : Exit → Act → World → Prop} {i : Nat} {o : Oper} {K : Act → World → Prop} {a : Act} {w : World} {f : FuncId} {fn : Func} {c : Operand} {ops_ : Array Operand} {ts : Array TypeId} (caps : Array Value) (hi : ops[i]? = some o) (hg : o.guard = none) (hf : P.funcs[f]? = some fn) (hname : (fn.name == "runtime.NumGoroutine") = false) (hb : fn.body.isSome = true) (args : Array Value)
    (ho : o.op = .call { callee := .value c, args := ops_, argTypes := ts }) (hc : a.eval c = .func (.func f) #[] caps) (hargs : ops_.map a.eval ++ caps = args) (h : Calls P f args w fun e w' => ∃ v, e = .returned v ∧ K (a.put o.dst v) w') : wpOp P ops Q i K a w := by
  have hw : Region.wanted o (yielded ops a.tmps) = true := by simp [Region.wanted, hg]
  have t : if Region.wanted o (yielded ops a.tmps) = true then Oper.wp P o a w K Q else K (a.put o.dst undef) w := by
    refine call_ f args hw rfl ?_ h
    have he := enters_ hf hname hb args w
    unfold execOp
    simp [ho, resolve, Deferred.ofValue, invoke, hc, hargs, he]
  rw [if_pos hw] at t
  unfold wpOp
  simp only [hi]
  rw [if_pos hw]
  exact Or.inl t
end
/-- An element of an own slice of whole numbers. -/
theorem value_fold.row_at {W : World} {base e g n cap : Nat} {xs : List Int} (h : W.ownsRow base e 1 (.slice (some ⟨g, 0, none⟩) n cap) n (xs.map (Value.int .i64))) (j : Nat) (hj : j < n) : W.cell? ⟨g, j, none⟩ = some (.int .i64 (xs[j]?.getD 0)) := by
  obtain ⟨hl, h2⟩ := h
  rcases h2 with ⟨hv, _⟩ | ⟨g', cap', cur, hv, _, hgg, _, _, hsz, htk⟩
  · cases hv
  · cases hv
    have h3 : cur.toList[j]? = (xs.map (Value.int .i64))[j]? := by rw [← htk, List.getElem?_take_of_lt (by omega)]
    have h4 : j < xs.length := by rw [List.length_map] at hl; omega
    rw [List.getElem?_map, List.getElem?_eq_getElem h4, Array.getElem?_toList] at h3
    rw [List.getElem?_eq_getElem h4]
    simp [World.cell?, hgg, h3]
theorem value_fold.keeps {B : Nat} {W W2 : World} (h : Below W.heap.size W W2) : KeepsFrom B W W2 := ⟨h.size, fun k o _ hk _ => (h.block k (Array.getElem?_eq_some_iff.1 hk).1).trans hk⟩
theorem value_fold.no_row {W : World} {B : Nat} {o : Obj} (h : W.heap[B]? = some o) (ho : o.isCells = false) {base e size k : Nat} {v : Value} {xs : List Value} (hr : W.ownsRow base e size v k xs) : some B ≠ v.ownBlock := by
  rcases hr.2 with ⟨rfl, _⟩ | ⟨g, cap, cur, rfl, _, hgb, _⟩
  · simp [Value.ownBlock]
  · intro e'
    obtain rfl : B = g := by simpa [Value.ownBlock] using e'
    rw [hgb] at h
    cases h
    cases ho
theorem value_fold.put_cell {W : World} {D : Nat} {o o' : Obj} (h : W.heap[D]? = some o) (ho : o.isCells = false) {p : Addr} {v : Value} (hc : W.cell? p = some v) : (W.putObj D o').cell? p = some v := by
  have hne : p.block ≠ D := by
    rintro rfl
    obtain ⟨o1, h1, h2⟩ := cells_of_cell hc
    rw [h] at h1
    cases h1
    rw [ho] at h2
    cases h2
  exact (World.cell?_of_block (World.putObj_heap_other hne)).trans hc
/-- What has come when k rounds are over: f 0, .., f (k - 1). -/
def seqUpto {α : Type} (f : Nat → α) (k : Nat) : List α := (List.range k).map f
theorem seqUpto_succ {α : Type} (f : Nat → α) (k : Nat) : seqUpto f (k + 1) = seqUpto f k ++ [f k] := by simp [seqUpto, List.range_succ]
theorem seqUpto_length {α : Type} (f : Nat → α) (k : Nat) : (seqUpto f k).length = k := by simp [seqUpto]
/-- What a round keeps: all that lay below n₀, and the block Bs, in which the slice lies. -/
def KpB (n₀ Bs : Nat) (W W' : World) : Prop := Below n₀ W W' ∧ ∀ cs T, W.heap[Bs]? = some (.cells cs T (0, 0)) → W'.heap[Bs]? = some (.cells cs T (0, 0))
theorem KpB.refl (n₀ Bs : Nat) (W : World) : KpB n₀ Bs W W := ⟨Below.refl _ _, fun _ _ h => h⟩
theorem KpB.trans {n₀ Bs : Nat} {A B C : World} (h : KpB n₀ Bs A B) (k : KpB n₀ Bs B C) : KpB n₀ Bs A C := ⟨h.1.trans k.1, fun cs T e => k.2 cs T (h.2 cs T e)⟩
theorem KpB.put {n₀ Bs : Nat} {w : World} (hn : n₀ ≤ w.heap.size) (W : World) (l : Nat) (o o' : Obj) (hl : w.heap.size ≤ l) (h : W.heap[l]? = some o) (ho : o.isCells = false) (hw : o.isWalk = false) : KpB n₀ Bs W (W.putObj l o') :=
  ⟨belowK_b hn W l o o' hl h ho hw, fun cs T e => (World.putObj_heap_other (fun q => by subst q; rw [e] at h; cases h; cases ho)).trans e⟩
/-- The pairs that slices.Backward hands over: the index, from the last one on, and the element. -/
def backAt (zs : List Int) (j : Nat) : Int × Int := ((zs.length : Int) - 1 - j, zs[zs.length - 1 - j]?.getD 0)
theorem backAt_take (zs : List Int) (k : Nat) (hk : k ≤ zs.length) : (seqUpto (backAt zs) k).map (·.2) = zs.reverse.take k := by
  apply List.ext_getElem?
  intro j
  by_cases hj : j < k
  · rw [List.getElem?_take_of_lt hj, List.getElem?_reverse (by omega)]
    simp [seqUpto, List.getElem?_map, List.getElem?_range hj, backAt]
    rw [List.getElem?_eq_getElem (by omega), Option.getD_some]
  · rw [List.getElem?_eq_none (by simp [seqUpto]; omega), List.getElem?_eq_none (by simp; omega)]
theorem backAt_all (zs : List Int) : (seqUpto (backAt zs) zs.length).map (·.2) = zs.reverse := by
  rw [backAt_take zs _ (Nat.le_refl _), List.take_of_length_le (by simp)]
set_option maxRecDepth 100000 in
set_option maxHeartbeats 4000000 in
theorem slices_Backward_1.run (F : Fence) (n : Nat) (hF : F.fn 68) (hro : F.round = none) (hn : 1 ≤ n) (l Bs n₀ : Nat) (A : Option Addr) (cap : Nat) (zs : List Int) (hreach : zs.length ≤ 1000000000) (J Jx : List (Int × Int) → World → Prop)
    (hY : ∀ pre x W, J pre W → pre.length < zs.length → YieldAt F (n - 1) Try.prog l #[.int .i64 x.1, .int .i64 x.2] W fun e W' =>
      (e = .returned (.bool true) ∧ J (pre ++ [x]) W' ∧ KpB n₀ Bs W W') ∨ (e = .returned (.bool false) ∧ Jx (pre ++ [x]) W'))
    (W : World) (hBs : W.heap[Bs]? = some (.cells #[.slice A zs.length cap] 22 (0, 0))) (hc : ∀ j, j < zs.length → ∃ ad : Addr, A = some ad ∧ (ad.add j).block < n₀ ∧ W.cell? (ad.add j) = some (.int .i64 (zs[j]?.getD 0))) (h0 : J [] W) :
    CallsIn F n Try.prog 68 #[.func (.yield l) #[] #[], .pointer (some ⟨Bs, 0, none⟩)] W fun e W' => (∃ v, e = .returned v) ∧
      ((∃ ys, ys = seqUpto (backAt zs) zs.length ∧ J ys W') ∨ (∃ pre, (∃ k, k ≤ zs.length ∧ pre = seqUpto (backAt zs) k) ∧ Jx pre W')) := by
  refine callsIn_of_wp Try.func68 rfl hF ?_ hro
  simp only [Try.ntmps68, List.size_toArray, List.length_cons, List.length_nil, Nat.reduceAdd, Nat.reduceSub, Array.replicate_succ, Array.replicate_zero, List.push_toArray, List.append_toArray, List.nil_append, List.cons_append]
  have c0 : W.cell? ⟨Bs, 0, none⟩ = some (.slice A zs.length cap) := blk_cell hBs 0
  gi_wp2
  gi_loopw [3] (fun i wr => ∃ k : Nat, k ≤ zs.length ∧ i = .int .i64 ((zs.length : Int) - 1 - k) ∧ J (seqUpto (backAt zs) k) wr ∧ KpB n₀ Bs W wr)
    (fun i _ => (intOf i + 1).toNat)
  case atStart => exact ⟨0, Nat.zero_le _, by simp, h0, KpB.refl _ _ _⟩
  case round =>
    obtain ⟨k, hk, rfl, hJs, hnx⟩ := hrel
    have hB2 := hnx.2 _ _ hBs
    have c1 : wr.cell? ⟨Bs, 0, none⟩ = some (.slice A zs.length cap) := blk_cell hB2 0
    clear c0
    by_cases hlt : k < zs.length
    · obtain ⟨ad, rfl, hb, hcj⟩ := hc (zs.length - 1 - k) (by omega)
      obtain ⟨fn, tmps, assign, body, hy, hR⟩ := hY _ (backAt zs k) wr hJs (by rw [seqUpto_length]; exact hlt)
      have cx := (hnx.1.cell (p := ad.add (zs.length - 1 - k)) hb).trans hcj
      unfold backAt at hy
      dsimp only at hy
      generalize hz : zs[zs.length - 1 - k]?.getD 0 = z at *
      obtain ⟨i, hi⟩ : ∃ i : Int, i = (zs.length : Int) - 1 - k := ⟨_, rfl⟩
      have hin : zs.length - 1 - k = i.toNat := by omega
      rw [hin] at cx
      rw [← hi] at hy
      rw [← hi]
      have q0 : decide (i ≥ 0) = true := decide_eq_true (by omega)
      have q1 : (0 ≤ i) = True := eq_true (by omega)
      have q2 : (i < (zs.length : Int)) = True := eq_true (by omega)
      have HI := Aside0.mk hi
      have bi : -9223372036854775808 ≤ i - 1 ∧ i - 1 ≤ 9223372036854775807 := by omega
      clear hi hin hz hcj hc hk
      gi_wp2
      refine hR.mono ?_
      rintro e W3 (⟨rfl, hJ3, hk3⟩ | ⟨rfl, hJx3⟩)
      · gi_wp2
        go_roundw
        case rel => exact ⟨k + 1, hlt, by rw [HI.out]; congr 1; push_cast; omega, by rw [seqUpto_succ]; exact hJ3, hnx.trans hk3⟩
        case measure => have := HI.out; simp [intOf]; omega
      · gi_wp2
        refine bodyPost_ret (results_none rfl _ _ _) rfl ?_
        exact ⟨⟨_, rfl⟩, .inr ⟨_, ⟨k + 1, hlt, (seqUpto_succ _ _).symm⟩, hJx3⟩⟩
    · obtain rfl : k = zs.length := by omega
      gi_wp2
      go_end0
      exact ⟨⟨_, rfl⟩, .inl ⟨_, rfl, hJs⟩⟩
theorem slices_Backward.run (F : Fence) (n : Nat) (hF : F.fn 62) (hro : F.round = none) (A : Option Addr) (len cap : Nat) (w : World) :
    CallsIn F n Try.prog 62 #[.slice A len cap] w fun e w' => e = .returned (.func (.func 68) #[] #[.pointer (some ⟨w.heap.size, 0, none⟩)]) ∧ w' = w.alloc (.cells #[.slice A len cap] 22) := by
  refine callsIn_of_wp Try.func62 rfl hF ?_ hro
  simp only [Try.ntmps62, List.size_toArray, List.length_cons, List.length_nil, Nat.reduceAdd, Nat.reduceSub, Array.replicate_succ, Array.replicate_zero, List.push_toArray, List.append_toArray, List.nil_append, List.cons_append]
  gi_wp2
  go_ret
  exact ⟨rfl, rfl⟩
theorem slices_Backward_1.stops (F : Fence) (n : Nat) (hF : F.fn 68) (hro : F.round = none) (hn : 1 ≤ n) (Bs n₀ : Nat) (A : Option Addr) (cap : Nat) (zs : List Int) (hreach : zs.length ≤ 1000000000) (w : World) (hn₀ : n₀ ≤ w.heap.size)
    (hBs : w.heap[Bs]? = some (.cells #[.slice A zs.length cap] 22 (0, 0))) (hc : ∀ j, j < zs.length → ∃ ad : Addr, A = some ad ∧ (ad.add j).block < n₀ ∧ w.cell? (ad.add j) = some (.int .i64 (zs[j]?.getD 0))) :
    SeqStopsK F n Try.prog 68 #[.pointer (some ⟨Bs, 0, none⟩)] (fun x : Int × Int => #[Value.int .i64 x.1, Value.int .i64 x.2]) (KpB n₀ Bs) (fun ys => ys = seqUpto (backAt zs) zs.length) (fun pre => ∃ k, k ≤ zs.length ∧ pre = seqUpto (backAt zs) k) zs.length w := fun l J Jx W hW _ _ hY h0 =>
  slices_Backward_1.run F n hF hro hn l Bs n₀ A cap zs hreach J Jx hY W (blk_below hBs hW) (fun j hj => by
    obtain ⟨ad, e, hb, h⟩ := hc j hj
    exact ⟨ad, e, hb, (hW.cell (World.block_lt_of_cell? w _ h)).trans h⟩) h0
/-- What a step of times comes to: the worth then, and the error. -/
def value_fold.stepv (by_ r x b : Int) : Int × Int :=
  if (Go.Proofs.Ytalnlphinlfenaa.XMoney.told (wrap64 (x * by_) + b)).2 = 0 then
    (if (Go.Proofs.Ytalnlphinlfenaa.XRate.discount (Go.Proofs.Ytalnlphinlfenaa.XMoney.told (wrap64 (x * by_) + b)).1 r).2 = 0 then
      (if (Go.Proofs.Ytalnlphinlfenaa.XRate.discount (Go.Proofs.Ytalnlphinlfenaa.XMoney.told (wrap64 (x * by_) + b)).1 r).1 > 4611686018427387904 then ((Go.Proofs.Ytalnlphinlfenaa.XRate.discount (Go.Proofs.Ytalnlphinlfenaa.XMoney.told (wrap64 (x * by_) + b)).1 r).1, 3)
       else if (Go.Proofs.Ytalnlphinlfenaa.XRate.discount (Go.Proofs.Ytalnlphinlfenaa.XMoney.told (wrap64 (x * by_) + b)).1 r).1 < -4611686018427387904 then ((Go.Proofs.Ytalnlphinlfenaa.XRate.discount (Go.Proofs.Ytalnlphinlfenaa.XMoney.told (wrap64 (x * by_) + b)).1 r).1, 3)
       else ((Go.Proofs.Ytalnlphinlfenaa.XRate.discount (Go.Proofs.Ytalnlphinlfenaa.XMoney.told (wrap64 (x * by_) + b)).1 r).1, 0))
     else Go.Proofs.Ytalnlphinlfenaa.XRate.discount (Go.Proofs.Ytalnlphinlfenaa.XMoney.told (wrap64 (x * by_) + b)).1 r)
  else (0, (Go.Proofs.Ytalnlphinlfenaa.XMoney.told (wrap64 (x * by_) + b)).2)
theorem value_fold.told_i64 (n : Int) : Go.Proofs.Ytalnlphinlfenaa.XWide.I64 (Go.Proofs.Ytalnlphinlfenaa.XMoney.told n).1 := by
  unfold Go.Proofs.Ytalnlphinlfenaa.XMoney.told
  split
  · assumption
  · exact ⟨by decide, by decide⟩
theorem value_fold.step {by_ r x b : Int} (hb : Go.Proofs.Ytalnlphinlfenaa.XWide.I64 b) {k : Nat} (hk : 30 ≤ k) : value_times_2.f k x b by_ r = some (value_fold.stepv by_ r x b) := by
  have hx : Go.Proofs.Ytalnlphinlfenaa.XWide.I64 (wrap64 (x * by_)) := by unfold wrap64; constructor <;> omega
  unfold value_times_2.f value_fold.stepv
  rw [Go.Proofs.Ytalnlphinlfenaa.XMoney.add hx hb, Option.bind_some]
  have ht := value_fold.told_i64 (wrap64 (x * by_) + b)
  generalize Go.Proofs.Ytalnlphinlfenaa.XMoney.told (wrap64 (x * by_) + b) = s at *
  by_cases c1 : s.2 = 0
  · rw [if_pos c1, if_pos c1, Go.Proofs.Ytalnlphinlfenaa.XRate.discount_f ht hk, Option.bind_some]
    generalize Go.Proofs.Ytalnlphinlfenaa.XRate.discount s.1 r = v at *
    by_cases c2 : v.2 = 0
    · rw [if_pos c2, if_pos c2]
      by_cases c3 : v.1 > 4611686018427387904
      · rw [if_pos c3, if_pos c3]
      · rw [if_neg c3, if_neg c3]
        by_cases c4 : v.1 < -4611686018427387904
        · rw [if_pos c4, if_pos c4]
        · rw [if_neg c4, if_neg c4, c2]
    · rw [if_neg c2, if_neg c2]
  · rw [if_neg c1, if_neg c1]
theorem value_fold.stepv_i64 (by_ r x b : Int) : Go.Proofs.Ytalnlphinlfenaa.XWide.I64 (value_fold.stepv by_ r x b).1 := by
  unfold value_fold.stepv
  have h := Go.Proofs.Ytalnlphinlfenaa.XRate.discount_i64 (Go.Proofs.Ytalnlphinlfenaa.XMoney.told (wrap64 (x * by_) + b)).1 r
  split
  · split
    · split
      · exact h
      · split
        · exact h
        · exact h
    · exact h
  · constructor <;> (show _ ≤ _; simp)
/-- What has come of amounts in this order: what each is worth, and the first error. -/
def value_fold.last (o : List Int) : Int := rd o ((o.length : Int) - 1)
def value_fold.next (by_ r : Int) (s : List Int × Int) (x : Int) : List Int × Int :=
  (s.1 ++ [(value_fold.stepv by_ r x (value_fold.last s.1)).1], if s.2 = 0 then (value_fold.stepv by_ r x (value_fold.last s.1)).2 else s.2)
def value_fold.runs (by_ r a : Int) (xs : List Int) : List Int × Int := xs.foldl (value_fold.next by_ r) ([a], 0)
theorem value_fold.runs_snoc (by_ r a : Int) (xs : List Int) (x : Int) : value_fold.runs by_ r a (xs ++ [x]) = value_fold.next by_ r (value_fold.runs by_ r a xs) x := by
  unfold value_fold.runs
  rw [List.foldl_append]
  rfl
theorem value_fold.runs_length (by_ r a : Int) (xs : List Int) : (value_fold.runs by_ r a xs).1.length = xs.length + 1 := by
  have h : ∀ (xs : List Int) (s : List Int × Int), (xs.foldl (value_fold.next by_ r) s).1.length = s.1.length + xs.length := by
    intro xs
    induction xs with
    | nil => intro s; rfl
    | cons x xs ih => intro s; rw [List.foldl_cons, ih]; simp [value_fold.next]; omega
  unfold value_fold.runs
  rw [h]
  simp
  omega
theorem value_fold.runs_err (by_ r a : Int) (xs ys : List Int) (h : (value_fold.runs by_ r a xs).2 ≠ 0) : (value_fold.runs by_ r a (xs ++ ys)).2 = (value_fold.runs by_ r a xs).2 := by
  have g : ∀ (ys : List Int) (s : List Int × Int), s.2 ≠ 0 → (ys.foldl (value_fold.next by_ r) s).2 = s.2 := by
    intro ys
    induction ys with
    | nil => intro s _; rfl
    | cons y ys ih =>
      intro s hs
      have e : (value_fold.next by_ r s y).2 = s.2 := by
        unfold value_fold.next
        rw [if_neg hs]
      rw [List.foldl_cons, ih _ (by rw [e]; exact hs), e]
  unfold value_fold.runs at h ⊢
  rw [List.foldl_append]
  exact g ys _ h
theorem value_fold.runs_i64 (by_ r a : Int) (ha : Go.Proofs.Ytalnlphinlfenaa.XWide.I64 a) (xs : List Int) : ∀ z ∈ (value_fold.runs by_ r a xs).1, Go.Proofs.Ytalnlphinlfenaa.XWide.I64 z := by
  have g : ∀ (xs : List Int) (s : List Int × Int), (∀ z ∈ s.1, Go.Proofs.Ytalnlphinlfenaa.XWide.I64 z) → ∀ z ∈ (xs.foldl (value_fold.next by_ r) s).1, Go.Proofs.Ytalnlphinlfenaa.XWide.I64 z := by
    intro xs
    induction xs with
    | nil => intro s hs; exact hs
    | cons x xs ih =>
      intro s hs
      rw [List.foldl_cons]
      refine ih _ fun z hz => ?_
      rcases List.mem_append.mp hz with h | h
      · exact hs z h
      · obtain rfl := List.mem_singleton.mp h
        exact value_fold.stepv_i64 _ _ _ _
  exact g xs _ fun z hz => by obtain rfl := List.mem_singleton.mp hz; exact ha
theorem value_fold.last_i64 (by_ r a : Int) (ha : Go.Proofs.Ytalnlphinlfenaa.XWide.I64 a) (xs : List Int) : Go.Proofs.Ytalnlphinlfenaa.XWide.I64 (value_fold.last (value_fold.runs by_ r a xs).1) := by
  have hl := value_fold.runs_length by_ r a xs
  have h := value_fold.runs_i64 by_ r a ha xs
  generalize (value_fold.runs by_ r a xs).1 = o at *
  unfold value_fold.last rd
  have e : ((o.length : Int) - 1).toNat = o.length - 1 := by omega
  rw [e, List.getD_eq_getElem?_getD, List.getElem?_eq_getElem (by omega), Option.getD_some]
  exact h _ (List.getElem_mem _)
/-- All that backward comes to. -/
def value_fold.all (k : Nat) (l : List Int) (a by_ r : Int) : Option (List Int × Int) :=
  if (value_fold.runs by_ r a l.reverse).2 = 0 then (slices_Reverse_int64_int64.f k (value_fold.runs by_ r a l.reverse).1).bind fun s => some (s, 0) else some ([], (value_fold.runs by_ r a l.reverse).2)
def value_fold_int64_int64__value_times_2.f (k : Nat) (l0 : List Int) (a1 a2_0_0 a2_1_0 : Int) : Option (List Int × Int) :=
  if 40 ≤ k ∧ (-9223372036854775808 ≤ a1 ∧ a1 ≤ 9223372036854775807) ∧ l0.length ≤ 1000000000 then value_fold.all k l0 a1 a2_0_0 a2_1_0 else none
set_option maxRecDepth 100000 in
set_option maxHeartbeats 4000000 in
theorem value_fold_int64_int64__value_times_2.calls (k : Nat) (A0 : Option Addr) (c0 : Nat) (l0 : List Int) (a1 : Int) (gc2_0 : Nat) (a2_0_0 : Int) (gc2_1 : Nat) (a2_1_0 : Int) (r1 : List Int) (r2 : Int) (w : World) (hr0 : Kd.C (Kd.int .i64) w A0 l0.length l0) (hc0 : l0.length ≤ c0) (hgc2_0 : w.heap[gc2_0]? = some (.cells #[.int .i64 a2_0_0] 2 (0, 0))) (hgc2_1 : w.heap[gc2_1]? = some (.cells #[.int .i64 a2_1_0] 2 (0, 0))) (h : value_fold_int64_int64__value_times_2.f k l0 a1 a2_0_0 a2_1_0 = some (r1, r2)) :
    Calls Try.prog 56 #[.slice A0 l0.length c0, .int .i64 a1, .func (.func 57) #[] #[.pointer (some ⟨gc2_0, 0, none⟩), .pointer (some ⟨gc2_1, 0, none⟩)]] w fun e w' => ∃ v0_ : Value, e = .returned (.tuple #[v0_, .int .i64 r2]) ∧ Kd.R (Kd.int .i64) 2 w' w.heap.size (fun _ => True) v0_ r1 ∧ Below w.heap.size w w' := by
  unfold value_fold_int64_int64__value_times_2.f at h
  split at h
  case isFalse => exact absurd h (by simp)
  rename_i hg
  obtain ⟨hk, ha, hlen⟩ := hg
  obtain ⟨i0, hi, hz0, hz1, hz2⟩ := info_parts (show (Try.prog.info? 2).map (fun i => (i.zero, i.size, i.bytes)) = some (some (.int .i64 0), 1, 8) from by kernel_rfl)
  have hrd : ∀ j, j < l0.length → ∃ ad : Addr, A0 = some ad ∧ (ad.add j).block < w.heap.size ∧ w.cell? (ad.add j) = some (.int .i64 (l0[j]?.getD 0)) := fun j hj => by
    obtain ⟨ad, e, hcell⟩ := Kd.at_int hr0 (j : Int) (by omega) (by omega)
    have hcell' : w.cell? (ad.add j) = some (.int .i64 (l0[j]?.getD 0)) := by
      rw [Int.toNat_natCast] at hcell
      rw [hcell]
      unfold rd
      rw [Int.toNat_natCast, List.getD_eq_getElem?_getD]
    exact ⟨ad, e, World.block_lt_of_cell? w _ hcell', hcell'⟩
  clear hr0
  obtain ⟨N, hN⟩ : ∃ N : Nat, N = w.heap.size := ⟨_, rfl⟩
  refine (callsIn_wide (n := 8)).1 ?_
  refine callsIn_of_wp_marks Try.func56 rfl trivial ?_ rfl
  simp only [Try.ntmps56, List.size_toArray, List.length_cons, List.length_nil, Nat.reduceAdd, Nat.reduceSub, Array.replicate_succ, Array.replicate_zero, List.push_toArray, List.append_toArray, List.nil_append, List.cons_append]
  have g0 := blk_lt hgc2_0
  have g1 := blk_lt hgc2_1
  gi_wp2_with (refine ⟨trivial, ?_⟩; gi_at_call 62; refine (slices_Backward.run Fence.wide _ trivial rfl _ _ _ _).mono ?_; rintro e w' ⟨rfl, rfl⟩)
  have b0 := Boxed.new w 43 (.func (.func 57) #[] #[.pointer (some ⟨gc2_0, 0, none⟩), .pointer (some ⟨gc2_1, 0, none⟩)])
  have y0 := below_alloc (Below.refl w.heap.size w) (.cells #[.func (.func 57) #[] #[.pointer (some ⟨gc2_0, 0, none⟩), .pointer (some ⟨gc2_1, 0, none⟩)]] 43)
  have s0 := World.size_alloc w (.cells #[.func (.func 57) #[] #[.pointer (some ⟨gc2_0, 0, none⟩), .pointer (some ⟨gc2_1, 0, none⟩)]] 43)
  generalize w.alloc (.cells #[.func (.func 57) #[] #[.pointer (some ⟨gc2_0, 0, none⟩), .pointer (some ⟨gc2_1, 0, none⟩)]] 43) = w0 at *
  have b1 := Boxed.new w0 22 (.slice none 0 0)
  have y1 := below_alloc y0 (.cells #[.slice none 0 0] 22)
  have s1 := World.size_alloc w0 (.cells #[.slice none 0 0] 22)
  replace b0 := b0.alloc (.cells #[.slice none 0 0] 22)
  generalize w0.alloc (.cells #[.slice none 0 0] 22) = w1 at *
  have b2 := Boxed.new w1 25 (.int .i64 0)
  have y2 := below_alloc y1 (.cells #[.int .i64 0] 25)
  have s2 := World.size_alloc w1 (.cells #[.int .i64 0] 25)
  replace b0 := b0.alloc (.cells #[.int .i64 0] 25)
  replace b1 := b1.alloc (.cells #[.int .i64 0] 25)
  generalize w1.alloc (.cells #[.int .i64 0] 25) = w2 at *
  have b3 : (w2.alloc (.cells #[.int .i64 a1] 2)).ownsRow N 2 1 (.slice (some ⟨w2.heap.size, 0, none⟩) 1 1) 1 [.int .i64 a1] := by
    have h := World.ownsRow_lit (base := N) (e := 2) (size := 1) w2 #[.int .i64 a1] 1 (by omega) (by decide) (by simp)
    simpa using h
  have y3 := below_alloc y2 (.cells #[.int .i64 a1] 2)
  have s3 := World.size_alloc w2 (.cells #[.int .i64 a1] 2)
  replace b0 := b0.alloc (.cells #[.int .i64 a1] 2)
  replace b1 := b1.alloc (.cells #[.int .i64 a1] 2)
  replace b2 := b2.alloc (.cells #[.int .i64 a1] 2)
  generalize w2.alloc (.cells #[.int .i64 a1] 2) = w3 at *
  rw [show w2.heap.size = w.heap.size + 1 + 1 + 1 by omega] at b3
  rw [show w0.heap.size = w.heap.size + 1 by omega] at b1
  rw [show w1.heap.size = w.heap.size + 1 + 1 by omega] at b2
  have b4 := Boxed.new w3 22 (.slice (some ⟨w.heap.size + 1 + 1 + 1, 0, none⟩) 1 1)
  have y4 := below_alloc y3 (.cells #[.slice (some ⟨w.heap.size + 1 + 1 + 1, 0, none⟩) 1 1] 22)
  have s4 := World.size_alloc w3 (.cells #[.slice (some ⟨w.heap.size + 1 + 1 + 1, 0, none⟩) 1 1] 22)
  replace b0 := b0.alloc (.cells #[.slice (some ⟨w.heap.size + 1 + 1 + 1, 0, none⟩) 1 1] 22)
  replace b1 := b1.alloc (.cells #[.slice (some ⟨w.heap.size + 1 + 1 + 1, 0, none⟩) 1 1] 22)
  replace b2 := b2.alloc (.cells #[.slice (some ⟨w.heap.size + 1 + 1 + 1, 0, none⟩) 1 1] 22)
  replace b3 := b3.alloc (.cells #[.slice (some ⟨w.heap.size + 1 + 1 + 1, 0, none⟩) 1 1] 22)
  generalize w3.alloc (.cells #[.slice (some ⟨w.heap.size + 1 + 1 + 1, 0, none⟩) 1 1] 22) = w4 at *
  rw [show w3.heap.size = w.heap.size + 1 + 1 + 1 + 1 by omega] at b4
  have b5 := Boxed.new w4 22 (.slice A0 l0.length c0)
  have y5 := below_alloc y4 (.cells #[.slice A0 l0.length c0] 22)
  have s5 := World.size_alloc w4 (.cells #[.slice A0 l0.length c0] 22)
  replace b0 := b0.alloc (.cells #[.slice A0 l0.length c0] 22)
  replace b1 := b1.alloc (.cells #[.slice A0 l0.length c0] 22)
  replace b2 := b2.alloc (.cells #[.slice A0 l0.length c0] 22)
  replace b3 := b3.alloc (.cells #[.slice A0 l0.length c0] 22)
  replace b4 := b4.alloc (.cells #[.slice A0 l0.length c0] 22)
  generalize w4.alloc (.cells #[.slice A0 l0.length c0] 22) = w5 at *
  rw [show w4.heap.size = w.heap.size + 1 + 1 + 1 + 1 + 1 by omega] at b5
  have sz : w5.heap.size = N + 1 + 1 + 1 + 1 + 1 + 1 := by omega
  clear y0 y1 y2 y3 y4 s0 s1 s2 s3 s4 s5
  have HN := Aside0.mk hN
  rw [← hN] at b0 b1 b2 b3 b4 b5 y5 g0 g1 ⊢
  rw [← hN] at hrd
  have hNW : N ≤ w.heap.size := by omega
  clear hN
  have hmx : Try.prog.follows .mixedOrders = true := by kernel_rfl
  refine wpIn_rangeFunc_ownG (F := Fence.wide) rfl (by omega) (gf := 68) (lb := #[.pointer (some ⟨N + 1 + 1 + 1 + 1 + 1, 0, none⟩)]) rfl trivial (enters_of Try.func68 (by kernel_rfl) rfl)
    (slices_Backward_1.stops Fence.wide _ trivial rfl (by omega) (N + 1 + 1 + 1 + 1 + 1) N A0 c0 l0 hlen w5 (by omega) b5 (fun j hj => by
      obtain ⟨ad, e, h1, h2⟩ := hrd j hj
      exact ⟨ad, e, h1, (y5.cell (p := ad.add j) h1).trans h2⟩)) KpB.trans (fun W l o o' => KpB.put (by omega) W l o o') (Below.refl _ _) (fun _ => rfl)
    (fun (pre : List (Int × Int)) W => (∃ v, Boxed W (N + 1 + 1 + 1 + 1) 22 v ∧ W.ownsRow N 2 1 v (pre.length + 1) ((value_fold.runs a2_0_0 a2_1_0 a1 (pre.map (·.2))).1.map (Value.int .i64)) ∧ True) ∧ (value_fold.runs a2_0_0 a2_1_0 a1 (pre.map (·.2))).2 = 0 ∧ Boxed W N 43 (.func (.func 57) #[] #[.pointer (some ⟨gc2_0, 0, none⟩), .pointer (some ⟨gc2_1, 0, none⟩)]) ∧ Boxed W (N + 1) 22 (.slice none 0 0) ∧ Boxed W (N + 1 + 1) 25 (.int .i64 0) ∧ Boxed W (N + 1 + 1 + 1 + 1 + 1) 22 (.slice A0 l0.length c0) ∧ Below N w W)
    (fun c (pre : List (Int × Int)) W => c = .ret ∧ (∃ ini x, pre = ini ++ [x] ∧ (value_fold.runs a2_0_0 a2_1_0 a1 (ini.map (·.2))).2 = 0 ∧ (value_fold.runs a2_0_0 a2_1_0 a1 (pre.map (·.2))).2 ≠ 0) ∧ Boxed W (N + 1) 22 (.slice none 0 0) ∧ Boxed W (N + 1 + 1) 25 (.int .i64 (value_fold.runs a2_0_0 a2_1_0 a1 (pre.map (·.2))).2) ∧ Below N w W)
    (OwnFrom.and (Own.from (holdsRow_own N (N + 1 + 1 + 1 + 1) 22 2 1 (fun pre : List (Int × Int) => pre.length + 1) (fun pre : List (Int × Int) => (value_fold.runs a2_0_0 a2_1_0 a1 (pre.map (·.2))).1.map (Value.int .i64)) (fun _ _ => True)) _) (OwnFrom.and (ownFrom_pure _ _) (OwnFrom.and (Own.from (boxed_own _ _ _) _) (OwnFrom.and (Own.from (boxed_own _ _ _) _) (OwnFrom.and (Own.from (boxed_own _ _ _) _) (OwnFrom.and (Own.from (boxed_own _ _ _) _) (ownFrom_below (by omega) (by omega))))))))
    (fun c => OwnFrom.and (ownFrom_pure _ _) (OwnFrom.and (ownFrom_pure _ _) (OwnFrom.and (Own.from (boxed_own _ _ _) _) (OwnFrom.and (Own.from (boxed_own _ _ _) _) (ownFrom_below (by omega) (by omega))))))
    ⟨⟨_, b4, b3, trivial⟩, rfl, b0, b1, b2, b5, y5⟩
    (fun x => { tmps := #[.slice A0 l0.length c0, .int .i64 a1, .func (.func 57) #[] #[.pointer (some ⟨gc2_0, 0, none⟩), .pointer (some ⟨gc2_1, 0, none⟩)], undef, undef, .pointer (some ⟨N, 0, none⟩), .pointer (some ⟨N + 1, 0, none⟩), .pointer (some ⟨N + 1 + 1, 0, none⟩), .pointer (some ⟨N + 1 + 1 + 1 + 1, 0, none⟩), undef, .int .i64 x.2, undef, undef, .int .i64 a1, .slice (some ⟨N + 1 + 1 + 1, 0, none⟩) 1 1, .slice A0 l0.length c0, .func (.func 68) #[] #[.pointer (some ⟨N + 1 + 1 + 1 + 1 + 1, 0, none⟩)], .int .i64 x.1, .int .i64 x.2, undef, undef, undef, undef, undef, undef, undef, undef, undef, undef, undef, undef, undef, undef, undef, undef, undef, undef, undef, undef, undef, undef], defers := [] }) ?assign ?body ?done ?stop
  case assign =>
    intro l x W K hK
    gi_wp2
    exact hK
  case body =>
    rintro l pre x W ⟨⟨v, hv, hrow, _⟩, hok, hf0, hf1, hf2, hf5, hB⟩ hlt
    have hNW' : N ≤ W.heap.size := Nat.le_trans hNW hB.size
    have wc0 : W.heap[gc2_0]? = some (.cells #[.int .i64 a2_0_0] 2 (0, 0)) := (hB.block gc2_0 g0).trans hgc2_0
    have wc1 : W.heap[gc2_1]? = some (.cells #[.int .i64 a2_1_0] 2 (0, 0)) := (hB.block gc2_1 g1).trans hgc2_1
    obtain ⟨g, cap, rfl⟩ := ownsRow_succ hrow
    have hlen2 := value_fold.runs_length a2_0_0 a2_1_0 a1 (pre.map (·.2))
    have hl64 := value_fold.last_i64 a2_0_0 a2_1_0 a1 ha (pre.map (·.2))
    have hst := value_fold.step (by_ := a2_0_0) (r := a2_1_0) (x := x.2) hl64 (k := k) (by omega)
    have hnext := value_fold.runs_snoc a2_0_0 a2_1_0 a1 (pre.map (·.2)) x.2
    rw [List.length_map] at hlen2
    generalize hS : value_fold.runs a2_0_0 a2_1_0 a1 (pre.map (·.2)) = S at *
    have hel : W.cell? ⟨g, pre.length, none⟩ = some (.int .i64 (value_fold.last S.1)) := by
      rw [value_fold.row_at hrow pre.length (by omega)]
      unfold value_fold.last rd
      rw [hlen2, show (((pre.length + 1 : Nat) : Int) - 1).toNat = pre.length by omega, List.getD_eq_getElem?_getD]
    have q0 := hf0.cell
    have q8 := hv.cell
    have CT := fun W0 h0 h1 => value_times_2.calls k x.2 (value_fold.last S.1) gc2_0 a2_0_0 gc2_1 a2_1_0 (value_fold.stepv a2_0_0 a2_1_0 x.2 (value_fold.last S.1)).1 (value_fold.stepv a2_0_0 a2_1_0 x.2 (value_fold.last S.1)).2 W0 h0 h1 hst
    obtain ⟨⟨s1, s2⟩, hsv⟩ : ∃ sv, sv = value_fold.stepv a2_0_0 a2_1_0 x.2 (value_fold.last S.1) := ⟨_, rfl⟩
    rw [← hsv] at CT
    dsimp only at CT
    obtain ⟨xi, xv⟩ := x
    have HNX : Aside0 (value_fold.runs a2_0_0 a2_1_0 a1 ((pre ++ [(xi, xv)]).map (·.2)) = (S.1 ++ [s1], s2)) := Aside0.mk (by
      rw [List.map_append]
      simp only [List.map_cons, List.map_nil]
      rw [hnext]
      unfold value_fold.next
      rw [← hsv, if_pos hok])
    have HS := Aside0.mk hS
    clear hsv hnext hS
    obtain ⟨lv, hlv⟩ : ∃ lv, lv = value_fold.last S.1 := ⟨_, rfl⟩
    rw [← hlv] at CT hel
    obtain ⟨m, hm⟩ : ∃ m, m = pre.length := ⟨_, rfl⟩
    rw [← hm] at hel q8 hrow hv
    have HM := Aside0.mk hm
    have hm9 : m ≤ 1000000000 := by omega
    have HOK := Aside0.mk hok
    clear hst hm hlt hl64 hlen2 hlv hok
    gi_wp2
    have ix : ∀ W1 : World, (execOp (fun x => match x with | .tmp 22 => (.slice (some ⟨g, 0, none⟩) (m + 1) cap : Value) | _ => .int .i64 (m : Int)) { dst := some 26, op := Op.indexAddr 22 (Operand.tmp 22) (Operand.tmp 25), type := 0, pos := "", after := #[], guard := none }).run Try.prog W1 = .ok (.value (.pointer (some ⟨g, m, none⟩))) W1 := fun W1 => by
      have nm : ((m : Int) < (m : Int) + 1) = True := eq_true (by omega)
      go_simp
    refine region_lone (S := fun W1 => W1.cell? ⟨N, 0, none⟩ = some (.func (.func 57) #[] #[.pointer (some ⟨gc2_0, 0, none⟩), .pointer (some ⟨gc2_1, 0, none⟩)]) ∧ W1.cell? ⟨N + 1 + 1 + 1 + 1, 0, none⟩ = some (.slice (some ⟨g, 0, none⟩) (m + 1) cap) ∧ W1.cell? ⟨g, m, none⟩ = some (.int .i64 lv)) (by kernel_rfl) (by kernel_rfl) (fun ⟨_, _, h⟩ => h) ?_
    have hS0 : ({ W with drawn := W.drawn + 1 } : World).cell? ⟨N, 0, none⟩ = some (.func (.func 57) #[] #[.pointer (some ⟨gc2_0, 0, none⟩), .pointer (some ⟨gc2_1, 0, none⟩)]) ∧ ({ W with drawn := W.drawn + 1 } : World).cell? ⟨N + 1 + 1 + 1 + 1, 0, none⟩ = some (.slice (some ⟨g, 0, none⟩) (m + 1) cap) ∧ ({ W with drawn := W.drawn + 1 } : World).cell? ⟨g, m, none⟩ = some (.int .i64 lv) := ⟨q0, q8, hel⟩
    refine wpAnyH_take (i := 0) (v := .func (.func 57) #[] #[.pointer (some ⟨gc2_0, 0, none⟩), .pointer (some ⟨gc2_1, 0, none⟩)]) rfl (by kernel_rfl) (by kernel_rfl) (by kernel_rfl) (fun _ _ _ h => h) (Or.inl ⟨by rfl, fun W1 hS => by obtain ⟨s0, s8, se⟩ := hS; go_simp⟩) hS0 ?_
    refine wpAnyH_take (i := 1) (v := .int .i64 xv) rfl (by kernel_rfl) (by kernel_rfl) (by kernel_rfl) (fun _ _ _ h => h) (Or.inl ⟨by rfl, fun W1 hS => by go_simp⟩) hS0 ?_
    refine wpAnyH_take (i := 2) (v := .slice (some ⟨g, 0, none⟩) (m + 1) cap) rfl (by kernel_rfl) (by kernel_rfl) (by kernel_rfl) (fun _ _ _ h => h) (Or.inl ⟨by rfl, fun W1 hS => by obtain ⟨s0, s8, se⟩ := hS; go_simp⟩) hS0 ?_
    refine wpAnyH_take (i := 3) (v := .slice (some ⟨g, 0, none⟩) (m + 1) cap) rfl (by kernel_rfl) (by kernel_rfl) (by kernel_rfl) (fun _ _ _ h => h) (Or.inl ⟨by rfl, fun W1 hS => by obtain ⟨s0, s8, se⟩ := hS; go_simp⟩) hS0 ?_
    refine wpAnyH_take (i := 4) (v := .int .i64 ((m : Int) + 1)) rfl (by kernel_rfl) (by kernel_rfl) (by kernel_rfl) (fun _ _ _ h => h) (Or.inl ⟨by rfl, fun W1 hS => by go_simp⟩) hS0 ?_
    refine wpAnyH_take (i := 5) (v := .int .i64 (m : Int)) rfl (by kernel_rfl) (by kernel_rfl) (by kernel_rfl) (fun _ _ _ h => h) (Or.inl ⟨by rfl, fun W1 hS => by go_simp; simp only [i64_w]; unfold wrap64; omega⟩) hS0 ?_
    refine wpAnyH_take (i := 6) (v := .pointer (some ⟨g, m, none⟩)) rfl (by kernel_rfl) (by kernel_rfl) (by kernel_rfl) (fun _ _ _ h => h) (Or.inl ⟨by rfl, fun W1 hS => by exact ix W1⟩) hS0 ?_
    refine wpAnyH_take (i := 7) (v := .int .i64 lv) rfl (by kernel_rfl) (by kernel_rfl) (by kernel_rfl) (fun _ _ _ h => h) (Or.inl ⟨by rfl, fun W1 hS => by obtain ⟨s0, s8, se⟩ := hS; go_simp⟩) hS0 ?_
    refine region_norm (a' := { tmps := #[.slice A0 l0.length c0, .int .i64 a1, .func (.func 57) #[] #[.pointer (some ⟨gc2_0, 0, none⟩), .pointer (some ⟨gc2_1, 0, none⟩)], undef, undef, .pointer (some ⟨N, 0, none⟩), .pointer (some ⟨N + 1, 0, none⟩), .pointer (some ⟨N + 1 + 1, 0, none⟩), .pointer (some ⟨N + 1 + 1 + 1 + 1, 0, none⟩), undef, .int .i64 xv, undef, undef, .int .i64 a1, .slice (some ⟨N + 1 + 1 + 1, 0, none⟩) 1 1, .slice A0 l0.length c0, .func (.func 68) #[] #[.pointer (some ⟨N + 1 + 1 + 1 + 1 + 1, 0, none⟩)], .int .i64 xi, .int .i64 xv, undef, .func (.func 57) #[] #[.pointer (some ⟨gc2_0, 0, none⟩), .pointer (some ⟨gc2_1, 0, none⟩)], .int .i64 xv, .slice (some ⟨g, 0, none⟩) (m + 1) cap, .slice (some ⟨g, 0, none⟩) (m + 1) cap, .int .i64 ((m : Int) + 1), .int .i64 (m : Int), .pointer (some ⟨g, m, none⟩), .int .i64 lv, undef, undef, undef, undef, undef, undef, undef, undef, undef, undef, undef, undef, undef], defers := [] }) (by kernel_rfl) ?_
    refine wpAnyH_all (rs := [8]) (by kernel_rfl) (by simp) ?_
    intro i hi8
    obtain rfl : i = 8 := by simpa using hi8
    refine region_callV #[.pointer (some ⟨gc2_0, 0, none⟩), .pointer (some ⟨gc2_1, 0, none⟩)] rfl rfl Try.func57 (by kernel_rfl) rfl #[.int .i64 xv, .int .i64 lv, .pointer (some ⟨gc2_0, 0, none⟩), .pointer (some ⟨gc2_1, 0, none⟩)] rfl rfl (by simp only [List.map_toArray, List.map_cons, List.map_nil]; rfl) ((CT { W with drawn := W.drawn + 1 } (by exact wc0) (by exact wc1)).mono ?_)
    rintro e W2 ⟨rfl, hb2⟩
    replace hb2 : Below W.heap.size W W2 := ⟨hb2.os, hb2.tape, hb2.output, hb2.size, hb2.block⟩
    have hv' : Boxed W2 (N + 1 + 1 + 1 + 1) _ _ := (hb2.block _ hv.lt).trans hv
    have hf0' : Boxed W2 N _ _ := (hb2.block _ hf0.lt).trans hf0
    have hf1' : Boxed W2 (N + 1) _ _ := (hb2.block _ hf1.lt).trans hf1
    have hf2' : Boxed W2 (N + 1 + 1) _ _ := (hb2.block _ hf2.lt).trans hf2
    have hf5' : Boxed W2 (N + 1 + 1 + 1 + 1 + 1) _ _ := (hb2.block _ hf5.lt).trans hf5
    have hrow2 := pw_own_below hrow hb2
    have hB2 : Below N w W2 := hB.trans (hb2.mono hNW')
    have hN2 : N ≤ W2.heap.size := Nat.le_trans hNW hB2.size
    have hbN : Below N W W2 := hb2.mono hNW'
    have hkp2 : KeepsFrom w5.heap.size W W2 := value_fold.keeps hb2
    have hel2 := (hb2.cell (p := ⟨g, m, none⟩) (World.block_lt_of_cell? _ _ hel)).trans hel
    have hS2 : W2.cell? ⟨N, 0, none⟩ = some (.func (.func 57) #[] #[.pointer (some ⟨gc2_0, 0, none⟩), .pointer (some ⟨gc2_1, 0, none⟩)]) ∧ W2.cell? ⟨N + 1 + 1 + 1 + 1, 0, none⟩ = some (.slice (some ⟨g, 0, none⟩) (m + 1) cap) ∧ W2.cell? ⟨g, m, none⟩ = some (.int .i64 lv) := ⟨hf0'.cell, hv'.cell, hel2⟩
    refine ⟨_, rfl, hS2, ?_⟩
    clear CT ix hS0 q0 q8 hel wc0 wc1
    refine wpAnyH_take (i := 9) (v := .tuple #[.int .i64 s1, .int .i64 s2]) rfl (by kernel_rfl) (by kernel_rfl) (by kernel_rfl) (fun _ _ _ h => h) (Or.inl ⟨by rfl, fun W1 hS => by go_simp⟩) hS2 ?_
    refine wpAnyH_take (i := 10) (v := .int .i64 s1) rfl (by kernel_rfl) (by kernel_rfl) (by kernel_rfl) (fun _ _ _ h => h) (Or.inl ⟨by rfl, fun W1 hS => by go_simp⟩) hS2 ?_
    refine wpAnyH_take (i := 11) (v := .int .i64 s2) rfl (by kernel_rfl) (by kernel_rfl) (by kernel_rfl) (fun _ _ _ h => h) (Or.inl ⟨by rfl, fun W1 hS => by go_simp⟩) hS2 ?_
    refine wpAnyH_take (i := 12) (v := .int .i64 s1) rfl (by kernel_rfl) (by kernel_rfl) (by kernel_rfl) (fun _ _ _ h => h) (Or.inl ⟨by rfl, fun W1 hS => by go_simp⟩) hS2 ?_
    refine wpAnyH_take (i := 13) (v := .int .i64 s2) rfl (by kernel_rfl) (by kernel_rfl) (by kernel_rfl) (fun _ _ _ h => h) (Or.inl ⟨by rfl, fun W1 hS => by go_simp⟩) hS2 ?_
    refine region_norm (a' := { tmps := #[.slice A0 l0.length c0, .int .i64 a1, .func (.func 57) #[] #[.pointer (some ⟨gc2_0, 0, none⟩), .pointer (some ⟨gc2_1, 0, none⟩)], undef, undef, .pointer (some ⟨N, 0, none⟩), .pointer (some ⟨N + 1, 0, none⟩), .pointer (some ⟨N + 1 + 1, 0, none⟩), .pointer (some ⟨N + 1 + 1 + 1 + 1, 0, none⟩), undef, .int .i64 xv, .int .i64 s1, .int .i64 s2, .int .i64 a1, .slice (some ⟨N + 1 + 1 + 1, 0, none⟩) 1 1, .slice A0 l0.length c0, .func (.func 68) #[] #[.pointer (some ⟨N + 1 + 1 + 1 + 1 + 1, 0, none⟩)], .int .i64 xi, .int .i64 xv, .tuple #[.int .i64 s1, .int .i64 s2], .func (.func 57) #[] #[.pointer (some ⟨gc2_0, 0, none⟩), .pointer (some ⟨gc2_1, 0, none⟩)], .int .i64 xv, .slice (some ⟨g, 0, none⟩) (m + 1) cap, .slice (some ⟨g, 0, none⟩) (m + 1) cap, .int .i64 ((m : Int) + 1), .int .i64 (m : Int), .pointer (some ⟨g, m, none⟩), .int .i64 lv, .tuple #[.int .i64 s1, .int .i64 s2], .int .i64 s1, .int .i64 s2, undef, undef, undef, undef, undef, undef, undef, undef, undef, undef], defers := [] }) (by kernel_rfl) ?_
    refine wpAnyH_done (by kernel_rfl) ?_ _
    by_cases hz : s2 = 0
    · subst hz
      have c8 := hv'.cell
      clear hS2 hel2 hb2 hB hrow hv hf0 hf1 hf2
      gi_wp2_with (gi_at_builtin; refine wpListIn_append_own _ rfl _ _ 22 rfl N 2 i0 (.int .i64 0) 1 8 Try.underlying22 hi hz0 hz1 hz2 rfl (by decide) _ _ _ rfl (hrow2.alloc _) ⟨W2.heap.size, 0, none⟩ 1 1 [.int .i64 s1] rfl rfl (cell_one_new _ _ _) (by simp [Value.oneCell']) (Nat.le_trans (show m + 1 + 1 ≤ 1000000002 by omega) (by decide)) (by omega) (by simp; omega) ?_; intro v' w1 hown' hgrow _; obtain ⟨g', cap', rfl⟩ := ownsRow_succ hown'; obtain ⟨hv1, hv2, hr2, hk2, hb3⟩ := hv'.appended (by decide) hrow2 hN2 (by omega) hown' hgrow; have hc1 := hv1.cell; have hf1 := hv1.frozen)
      replace hgrow : (W2.alloc (.cells #[.int .i64 s1] 2)).grownBy w1 (Value.ownBlock (.slice (some ⟨g, 0, none⟩) (m + 1) cap)) := hgrow
      have kb : ∀ {B : Nat} {t : TypeId} {u : Value}, Boxed W2 B t u → t ≠ 2 → B ≠ N + 1 + 1 + 1 + 1 → Boxed (w1.setCell ⟨N + 1 + 1 + 1 + 1, 0, none⟩ (.slice (some ⟨g', 0, none⟩) (m + 1 + 1) cap')) B t u := fun h ht hB' => ((h.alloc _).kept hgrow (h.not_row ht hrow2)).other hB' _
      have e1 : (pre ++ [(xi, xv)]).length + 1 = m + 1 + 1 := by rw [List.length_append, HM.out]; rfl
      have e2 : (value_fold.runs a2_0_0 a2_1_0 a1 ((pre ++ [(xi, xv)]).map (·.2))).1.map (Value.int .i64) = S.1.map (Value.int .i64) ++ [Value.int .i64 s1] := by rw [HNX.out, List.map_append]; rfl
      exact ⟨hkp2.trans (hk2.from _), ⟨hbN.trans hb3, fun cs T e => (kb hf5' (by decide) (by omega)).trans (Eq.trans (Eq.symm hf5) e)⟩, ⟨_, hv2, by rw [e1, e2]; exact hr2, trivial⟩, by rw [HNX.out], kb hf0' (by decide) (by omega), kb hf1' (by decide) (by omega), kb hf2' (by decide) (by omega), kb hf5' (by decide) (by omega), hB2.trans hb3⟩
    · have nz : (s2 != 0) = true := by simp [hz]
      have c1 := hf1'.cell
      have z1 := hf1'.frozen
      have c2 := hf2'.cell
      have z2 := hf2'.frozen
      clear hS2 hel2 hb2 hB hrow hv hf0 hf1 hf2 hf5
      gi_wp2
      refine ⟨hkp2.trans (((KeepsOthers.setCell _ _ _).from _).trans ((KeepsOthers.setCell _ _ _).from _)), rfl, ⟨pre, (xi, xv), rfl, by rw [HS.out]; exact HOK.out, by rw [HNX.out]; exact hz⟩, (hf1'.set _).other (by omega) _, ?_, (hB2.setCell (by show N ≤ N + 1; omega) _).setCell (by show N ≤ N + 1 + 1; omega) _⟩
      rw [HNX.out]
      exact (hf2'.other (by omega) _).set _
  case done =>
    rintro D ys W hD rfl ⟨⟨v, hv, hrow, _⟩, hok, hf0, hf1, hf2, hf5, hB⟩ hK
    obtain ⟨g, cap, rfl⟩ := ownsRow_succ hrow
    rw [backAt_all] at hrow hok
    rw [seqUpto_length] at hrow hv
    have hlr := value_fold.runs_length a2_0_0 a2_1_0 a1 l0.reverse
    rw [List.length_reverse] at hlr
    unfold value_fold.all at h
    rw [if_pos hok] at h
    generalize value_fold.runs a2_0_0 a2_1_0 a1 l0.reverse = S at *
    obtain ⟨s, hs, hres⟩ := Option.bind_eq_some_iff.1 h
    obtain ⟨rfl, rfl⟩ : s = r1 ∧ 0 = r2 := by simpa using hres
    have hR0 : Kd.R (Kd.int .i64) 2 W w.heap.size (fun k_ => some k_ = Value.ownBlock (.slice (some ⟨g, 0, none⟩) (l0.length + 1) cap)) (.slice (some ⟨g, 0, none⟩) (l0.length + 1) cap) S.1 := Kd.R_of_own (by rw [hlr, ← HN.out]; exact hrow) (fun k hk => hk.symm)
    have hBw : Below w.heap.size w W := by rw [← HN.out]; exact hB
    have hND : w.heap.size ≤ D := by have := HN.out; omega
    have c8 := hv.cell
    have hD1 : D ≠ N + 1 := by omega
    have hD2 : D ≠ N + 1 + 1 := by omega
    clear h hres hlr hok
    gi_wp2_with (refine ⟨trivial, ?_⟩; gi_at_call 63; refine (callsIn_wide.2 (slices_Reverse_int64_int64.calls k _ _ S.1 s w W hBw hR0 hs)).mono ?_; rintro e W3 ⟨rfl, hR3, hb3, hk3⟩; have hv3 : Boxed W3 (N + 1 + 1 + 1 + 1) _ _ := (hk3.2 _ hv.lt (fun e => hv.not_row (by decide) hrow e)).trans hv; have hf13 : Boxed W3 (N + 1) _ _ := (hk3.2 _ hf1.lt (fun e => hf1.not_row (by decide) hrow e)).trans hf1; have hf23 : Boxed W3 (N + 1 + 1) _ _ := (hk3.2 _ hf2.lt (fun e => hf2.not_row (by decide) hrow e)).trans hf2; have hK3 : W3.heap[D]? = some (.deferred (some [])) := (hk3.2 D (Array.getElem?_eq_some_iff.1 hK).1 (fun e => value_fold.no_row hK rfl hrow e)).trans hK; clear c8; have c8 := hv3.cell; have c1 := hf13.cell; have z1 := hf13.frozen; have c2 := hf23.cell; have z2 := hf23.frozen)
    have hK4 : ((W3.setCell ⟨N + 1, 0, none⟩ (.slice (some ⟨g, 0, none⟩) (l0.length + 1) cap)).setCell ⟨N + 1 + 1, 0, none⟩ (.int .i64 0)).heap[D]? = some (.deferred (some [])) := (Below.heap_setCell _ _ _ _ hD2).trans ((Below.heap_setCell _ _ _ _ hD1).trans hK3)
    refine ⟨by simp, .inl ⟨_, _, rfl, run_takeDeferred hK4, ?_⟩⟩
    have x1 := value_fold.put_cell (o' := .deferred none) hK4 rfl ((hf13.set (.slice (some ⟨g, 0, none⟩) (l0.length + 1) cap)).other (B' := N + 1 + 1) (by omega) (.int .i64 0)).cell
    have x2 := value_fold.put_cell (o' := .deferred none) hK4 rfl ((hf23.other (B' := N + 1) (by omega) (.slice (some ⟨g, 0, none⟩) (l0.length + 1) cap)).set (.int .i64 0)).cell
    have o3 := Kd.own_of_R hR3
    refine ⟨.tuple #[.slice (some ⟨g, 0, none⟩) (l0.length + 1) cap, .int .i64 0], ?_, _, rfl, Kd.R_of_own (ownsRow_putObj ((o3.kept (grownBy_setCell' W3 (N + 1) _) (.inr (hf13.not_row (by decide) o3).symm)).kept (grownBy_setCell' _ (N + 1 + 1) _) (.inr (hf23.not_row (by decide) o3).symm)) _ hK4 rfl) (fun _ _ => trivial), ?_⟩
    · simp [results, Try.f56, go_sem, x1, x2]
    · have hN1 : w.heap.size ≤ N + 1 := by have := HN.out; omega
      exact (((hb3.setCell (p := ⟨N + 1, 0, none⟩) hN1 _).setCell (p := ⟨N + 1 + 1, 0, none⟩) (Nat.le_succ_of_le hN1) _).trans (belowK_b (w := w) (Nat.le_refl _) _ D _ _ hND hK4 rfl rfl))
  case stop =>
    rintro D c pre W hD ⟨k2, hk2, rfl⟩ ⟨rfl, ⟨ini, x, hpre, hok, herr⟩, hf1, hf2, hB⟩ hK
    rw [backAt_take l0 k2 hk2] at herr hf2
    have hall := value_fold.runs_err a2_0_0 a2_1_0 a1 (l0.reverse.take k2) (l0.reverse.drop k2) herr
    rw [List.take_append_drop] at hall
    unfold value_fold.all at h
    rw [if_neg (by rw [hall]; exact herr), hall] at h
    generalize value_fold.runs a2_0_0 a2_1_0 a1 (l0.reverse.take k2) = S at *
    obtain ⟨rfl, rfl⟩ : [] = r1 ∧ S.2 = r2 := by simpa using h
    have hBw : Below w.heap.size w W := by rw [← HN.out]; exact hB
    have hND : w.heap.size ≤ D := by have := HN.out; omega
    clear h hall hpre hok
    gi_wp2
    refine ⟨by simp, .inl ⟨_, _, rfl, run_takeDeferred hK, ?_⟩⟩
    have x1 := value_fold.put_cell (o' := .deferred none) hK rfl hf1.cell
    have x2 := value_fold.put_cell (o' := .deferred none) hK rfl hf2.cell
    refine ⟨.tuple #[.slice none 0 0, .int .i64 S.2], ?_, _, rfl, Kd.R_of_own (World.ownsRow_nil _ _ _ _) (fun _ _ => trivial), hBw.trans (belowK_b (w := w) (Nat.le_refl _) _ D _ _ hND hK rfl rfl)⟩
    simp [results, Try.f56, go_sem, x1, x2]
end

end Go.Proofs.Ytalnlphinlfenaa.S
end

section
namespace Go.Proofs.Ytalnlphinlfenaa.S
open Go.RowKit Go.Proofs.YtalnlphinlfenaaW.PrintWords Go.Proofs.YtalnlphinlfenaaW.PrintLast Go.Proofs.YtalnlphinlfenaaW.PrintMore
attribute [local go_sem] max2_int min2_int max_two min_two max_three min_three max_four min_four   -- for this text's walks alone
attribute [local go_sem] Go.Proofs.Ytalnlphinlfenaa.XWalk.cell2
set_option linter.unusedVariables false
set_option linter.unusedSimpArgs false

/-! ### value_times: function 38 -/
def value_times.f (k : Nat) (l0 : List Int) (a1 : Int) (a2 : Int) : Option (List Int × Int) := if (l0.length : Int) > 600 then (some (([] : List Int), 10)) else ((slices_ContainsFunc_int64_int64__value_times_1.f k l0).bind fun t314 => (if t314 = true then (some (([] : List Int), 2)) else ((rate_May.f a1).bind fun t315 => (if t315 = true then ((value_fold_int64_int64__value_times_2.f k l0 0 a2 a1).bind fun bt316 => (some (bt316.1, bt316.2))) else (some (([] : List Int), 2))))))
set_option maxHeartbeats 8000000 in
set_option maxRecDepth 100000 in
theorem value_times.calls (k : Nat) (A0 : Option Addr) (c0 : Nat) (l0 : List Int) (a1 : Int) (a2 : Int) (r1 : List Int) (r2 : Int) (w : World) (hr0 : Kd.C (Kd.int .i64) w A0 l0.length l0) (hc0 : l0.length ≤ c0) (h : value_times.f k l0 a1 a2 = some (r1, r2)) :
    Calls Try.prog 38 #[.slice A0 l0.length c0, .int .i64 a1, .int .i64 a2] w fun e w' => ∃ v0_ : Value, e = .returned (.tuple #[v0_, .int .i64 r2]) ∧ Kd.R (Kd.int .i64) 2 w' w.heap.size (fun _ => True) v0_ r1 ∧ Below w.heap.size w w' := by
  have HR0 := Aside0.mk hr0
  have HC0 := Aside0.mk hc0
  clear hr0 hc0
  have HB := Aside0.mk (Below.refl w.heap.size w)
  have H : (if (l0.length : Int) > 600 then (some (([] : List Int), 10)) else ((slices_ContainsFunc_int64_int64__value_times_1.f k l0).bind fun t314 => (if t314 = true then (some (([] : List Int), 2)) else ((rate_May.f a1).bind fun t315 => (if t315 = true then ((value_fold_int64_int64__value_times_2.f k l0 0 a2 a1).bind fun bt316 => (some (bt316.1, bt316.2))) else (some (([] : List Int), 2))))))) = some (r1, r2) := h
  clear h
  by_cases c4 : (l0.length : Int) > 600
  · rw [if_pos c4] at H
    have c4b0 : decide (600 < (l0.length : Int)) = true := decide_eq_true c4
    have c4b1 : decide (600 < l0.length) = true := decide_eq_true (by omega)
    clear c4
    simp only [Option.some.injEq, Prod.mk.injEq] at H
    obtain ⟨rfl, rfl⟩ := H
    go_enter Try.func38, Try.ntmps38
    go_wp2_with (first | ((with_reducible refine gate_dst (N := 4) rfl ?_); refine box_event ?hg (N := 4) ?hd (cs := #[.int .i64 a1]) (t := 2) ?hr ?_; (case hd => rfl); (case hg => rfl); (case hr => first | (go_simp; done) | (go_simp; rfl)); intro gb312 hg w5 hbox hb; have n0_ := Aside0.mk (below_step (by repeat (first | (with_reducible first | exact HB.out | apply below_alloc | apply pw_below_drewN | apply below_drew1) | exact HB.out)) hb); have n1_ := Aside0.mk (hbox); have n2_ := Aside0.mk ((by rw [hg]; exact (below_size (by repeat (first | (with_reducible first | exact HB.out | apply below_alloc | apply pw_below_drewN | apply below_drew1) | exact HB.out))) : w.heap.size ≤ gb312)); have n3_ := Aside0.mk ((by rw [hg]; exact (below_size (by repeat (first | (with_reducible first | exact HB.out | apply below_alloc | apply pw_below_drewN | apply below_drew1) | exact HB.out))) : w.heap.size ≤ gb312)); clear HB; have HB := n0_; have BK312 := n1_; have GW312 := n2_; have GE312 := n3_; clear n0_ n1_ n2_ n3_; clear hb hbox hg) | ((with_reducible refine gate_dst (N := 5) rfl ?_); refine box_event ?hg (N := 5) ?hd (cs := #[.int .i64 a2]) (t := 2) ?hr ?_; (case hd => rfl); (case hg => rfl); (case hr => first | (go_simp; done) | (go_simp; rfl)); intro gb313 hg w6 hbox hb; have n0_ := Aside0.mk (blk_below (g := gb312) (o := .cells #[.int .i64 a1] 2 (0, 0)) (by (with_reducible repeat (first | refine blk_drewN ?_ _ | refine blk_drew ?_ | refine blk_alloc ?_ _)); exact BK312.out) hb); have n1_ := Aside0.mk (below_step (by repeat (first | (with_reducible first | exact HB.out | apply below_alloc | apply pw_below_drewN | apply below_drew1 | refine below_set ?_ GE312.out) | exact HB.out)) hb); have n2_ := Aside0.mk (hbox); have n3_ := Aside0.mk ((by rw [hg]; exact (below_size (by repeat (first | (with_reducible first | exact HB.out | apply below_alloc | apply pw_below_drewN | apply below_drew1 | refine below_set ?_ GE312.out) | exact HB.out))) : w.heap.size ≤ gb313)); have n4_ := Aside0.mk ((by rw [hg]; exact (below_size (by repeat (first | (with_reducible first | exact HB.out | apply below_alloc | apply pw_below_drewN | apply below_drew1 | refine below_set ?_ GE312.out) | exact HB.out))) : w.heap.size ≤ gb313)); have n5_ := Aside0.mk ((by rw [hg]; exact Nat.ne_of_lt (blk_lt (g := gb312) (o := .cells #[.int .i64 a1] 2 (0, 0)) (by (with_reducible repeat (first | refine blk_drewN ?_ _ | refine blk_drew ?_ | refine blk_alloc ?_ _)); exact BK312.out)) : gb312 ≠ gb313)); have n6_ := Aside0.mk ((by rw [hg]; exact Nat.ne_of_gt (blk_lt (g := gb312) (o := .cells #[.int .i64 a1] 2 (0, 0)) (by (with_reducible repeat (first | refine blk_drewN ?_ _ | refine blk_drew ?_ | refine blk_alloc ?_ _)); exact BK312.out)) : gb313 ≠ gb312)); clear BK312; clear HB; have BK312 := n0_; have HB := n1_; have BK313 := n2_; have GW313 := n3_; have GE313 := n4_; have NB312_313 := n5_; have NB313_312 := n6_; clear n0_ n1_ n2_ n3_ n4_ n5_ n6_; clear hb hbox hg))
    go_ret2
    exact ⟨_, by first | rfl | (simp [errW_none, errW_some] <;> rfl) | (simp [*, errW_none, errW_some] <;> rfl), by first | exact Kd.R_nil _ _ _ _ _ | exact Kd.N_nil _ _ _ _ _ | exact Kd.V_nil _ _ _ _ _ | exact Kd.Q_nil _ _ _ _ _ | exact Kd.S_nil _ _ _ _ _, by repeat (first | (with_reducible first | exact HB.out | apply below_alloc | apply pw_below_drewN | apply below_drew1 | refine below_set ?_ GE312.out | refine below_set ?_ GE313.out) | exact HB.out)⟩
  · rw [if_neg c4] at H
    have c4b0 : decide (600 < (l0.length : Int)) = false := decide_eq_false c4
    have c4b1 : decide (600 < l0.length) = false := decide_eq_false (by omega)
    clear c4
    have HC7 := Aside0.mk H
    clear H
    go_enter Try.func38, Try.ntmps38
    go_upto_region 4 with (first | ((with_reducible refine gate_dst (N := 4) rfl ?_); refine box_event ?hg (N := 4) ?hd (cs := #[.int .i64 a1]) (t := 2) ?hr ?_; (case hd => rfl); (case hg => rfl); (case hr => first | (go_simp; done) | (go_simp; rfl)); intro gb312 hg w8 hbox hb; have n0_ := Aside0.mk (below_step (by repeat (first | (with_reducible first | exact HB.out | apply below_alloc | apply pw_below_drewN | apply below_drew1) | exact HB.out)) hb); have n1_ := Aside0.mk (hbox); have n2_ := Aside0.mk ((by rw [hg]; exact (below_size (by repeat (first | (with_reducible first | exact HB.out | apply below_alloc | apply pw_below_drewN | apply below_drew1) | exact HB.out))) : w.heap.size ≤ gb312)); have n3_ := Aside0.mk ((by rw [hg]; exact (below_size (by repeat (first | (with_reducible first | exact HB.out | apply below_alloc | apply pw_below_drewN | apply below_drew1) | exact HB.out))) : w.heap.size ≤ gb312)); clear HB; have HB := n0_; have BK312 := n1_; have GW312 := n2_; have GE312 := n3_; clear n0_ n1_ n2_ n3_; clear hb hbox hg) | ((with_reducible refine gate_dst (N := 5) rfl ?_); refine box_event ?hg (N := 5) ?hd (cs := #[.int .i64 a2]) (t := 2) ?hr ?_; (case hd => rfl); (case hg => rfl); (case hr => first | (go_simp; done) | (go_simp; rfl)); intro gb313 hg w9 hbox hb; have n0_ := Aside0.mk (blk_below (g := gb312) (o := .cells #[.int .i64 a1] 2 (0, 0)) (by (with_reducible repeat (first | refine blk_drewN ?_ _ | refine blk_drew ?_ | refine blk_alloc ?_ _)); exact BK312.out) hb); have n1_ := Aside0.mk (below_step (by repeat (first | (with_reducible first | exact HB.out | apply below_alloc | apply pw_below_drewN | apply below_drew1 | refine below_set ?_ GE312.out) | exact HB.out)) hb); have n2_ := Aside0.mk (hbox); have n3_ := Aside0.mk ((by rw [hg]; exact (below_size (by repeat (first | (with_reducible first | exact HB.out | apply below_alloc | apply pw_below_drewN | apply below_drew1 | refine below_set ?_ GE312.out) | exact HB.out))) : w.heap.size ≤ gb313)); have n4_ := Aside0.mk ((by rw [hg]; exact (below_size (by repeat (first | (with_reducible first | exact HB.out | apply below_alloc | apply pw_below_drewN | apply below_drew1 | refine below_set ?_ GE312.out) | exact HB.out))) : w.heap.size ≤ gb313)); have n5_ := Aside0.mk ((by rw [hg]; exact Nat.ne_of_lt (blk_lt (g := gb312) (o := .cells #[.int .i64 a1] 2 (0, 0)) (by (with_reducible repeat (first | refine blk_drewN ?_ _ | refine blk_drew ?_ | refine blk_alloc ?_ _)); exact BK312.out)) : gb312 ≠ gb313)); have n6_ := Aside0.mk ((by rw [hg]; exact Nat.ne_of_gt (blk_lt (g := gb312) (o := .cells #[.int .i64 a1] 2 (0, 0)) (by (with_reducible repeat (first | refine blk_drewN ?_ _ | refine blk_drew ?_ | refine blk_alloc ?_ _)); exact BK312.out)) : gb313 ≠ gb312)); clear BK312; clear HB; have BK312 := n0_; have HB := n1_; have BK313 := n2_; have GW313 := n3_; have GE313 := n4_; have NB312_313 := n5_; have NB313_312 := n6_; clear n0_ n1_ n2_ n3_ n4_ n5_ n6_; clear hb hbox hg))
    have H := HC7.out
    clear HC7
    replace H := Option.bind_eq_some_iff.mp H
    obtain ⟨t314, A100, H⟩ := H
    replace H : (if t314 = true then (some (([] : List Int), 2)) else ((rate_May.f a1).bind fun t315 => (if t315 = true then ((value_fold_int64_int64__value_times_2.f k l0 0 a2 a1).bind fun bt316 => (some (bt316.1, bt316.2))) else (some (([] : List Int), 2))))) = some (r1, r2) := H
    have A10 := Aside0.mk A100
    clear A100
    by_cases c11 : t314 = true
    · subst c11
      have H1 : (some (([] : List Int), 2)) = some (r1, r2) := by rw [if_pos rfl] at H; exact H
      clear H
      have H := H1
      clear H1
      simp only [Option.some.injEq, Prod.mk.injEq] at H
      obtain ⟨rfl, rfl⟩ := H
      go_wp2_with (first | ((with_reducible refine gate_callee (f := 55) rfl ?_); refine goesL_ (some 16) rfl rfl Try.func55 (by kernel_rfl) rfl #[.slice A0 l0.length c0, .func (.func 53) #[] #[]] rfl (by (try simp only [List.map_toArray, List.map_cons, List.map_nil]); first | done | rfl | (simp only [List.length_drop, List.length_take]; rfl)) ?_; (with_reducible refine (slices_ContainsFunc_int64_int64__value_times_1.calls k _ _ l0  true _ ?side1 ?side2 A10.out).mono ?_); (case side1 => repeat (first | exact (Kd.C_below HR0.out HB.out) | (with_reducible refine Kd.C_alloc ?_ _) | (with_reducible refine Kd.C_drewN ?_ _) | (with_reducible refine Kd.C_drew ?_))); (case side2 => exact HC0.out); rintro e w12 ⟨rfl, hb⟩; refine ⟨_, rfl, ?_⟩; have n0_ := Aside0.mk (blk_below (g := gb312) (o := .cells #[.int .i64 a1] 2 (0, 0)) (by (with_reducible repeat (first | refine blk_drewN ?_ _ | refine blk_drew ?_ | refine blk_alloc ?_ _)); exact BK312.out) hb); have n1_ := Aside0.mk (blk_below (g := gb313) (o := .cells #[.int .i64 a2] 2 (0, 0)) (by (with_reducible repeat (first | refine blk_drewN ?_ _ | refine blk_drew ?_ | refine blk_alloc ?_ _)); exact BK313.out) hb); have n2_ := Aside0.mk (below_step (by repeat (first | (with_reducible first | exact HB.out | apply below_alloc | apply pw_below_drewN | apply below_drew1 | refine below_set ?_ GE312.out | refine below_set ?_ GE313.out) | exact HB.out)) hb); clear BK312; clear BK313; clear HB; have BK312 := n0_; have BK313 := n1_; have HB := n2_; clear n0_ n1_ n2_; (try clear hb); (try clear hb2); (try clear hk); (try clear hi)))
      go_ret2
      exact ⟨_, by first | rfl | (simp [errW_none, errW_some] <;> rfl) | (simp [*, errW_none, errW_some] <;> rfl), by first | exact Kd.R_nil _ _ _ _ _ | exact Kd.N_nil _ _ _ _ _ | exact Kd.V_nil _ _ _ _ _ | exact Kd.Q_nil _ _ _ _ _ | exact Kd.S_nil _ _ _ _ _, by repeat (first | (with_reducible first | exact HB.out | apply below_alloc | apply pw_below_drewN | apply below_drew1 | refine below_set ?_ GE312.out | refine below_set ?_ GE313.out) | exact HB.out)⟩
    · replace c11 := Bool.eq_false_iff.mpr c11
      subst c11
      have H1 : ((rate_May.f a1).bind fun t315 => (if t315 = true then ((value_fold_int64_int64__value_times_2.f k l0 0 a2 a1).bind fun bt316 => (some (bt316.1, bt316.2))) else (some (([] : List Int), 2)))) = some (r1, r2) := by rw [if_neg (show ¬ (false = true) by decide)] at H; exact H
      clear H
      have H := H1
      clear H1
      replace H := Option.bind_eq_some_iff.mp H
      obtain ⟨t315, A130, H⟩ := H
      replace H : (if t315 = true then ((value_fold_int64_int64__value_times_2.f k l0 0 a2 a1).bind fun bt316 => (some (bt316.1, bt316.2))) else (some (([] : List Int), 2))) = some (r1, r2) := H
      have A13 := Aside0.mk A130
      clear A130
      by_cases c14 : t315 = true
      · subst c14
        have H1 : ((value_fold_int64_int64__value_times_2.f k l0 0 a2 a1).bind fun bt316 => (some (bt316.1, bt316.2))) = some (r1, r2) := by rw [if_pos rfl] at H; exact H
        clear H
        have H := H1
        clear H1
        replace H := Option.bind_eq_some_iff.mp H
        obtain ⟨⟨t316, t317⟩, A150, H⟩ := H
        replace H : (some (t316, t317)) = some (r1, r2) := H
        have A15 := Aside0.mk A150
        clear A150
        simp only [Option.some.injEq, Prod.mk.injEq] at H
        obtain ⟨rfl, rfl⟩ := H
        go_wp2_with (first | ((with_reducible refine gate_callee (f := 55) rfl ?_); refine goesL_ (some 16) rfl rfl Try.func55 (by kernel_rfl) rfl #[.slice A0 l0.length c0, .func (.func 53) #[] #[]] rfl (by (try simp only [List.map_toArray, List.map_cons, List.map_nil]); first | done | rfl | (simp only [List.length_drop, List.length_take]; rfl)) ?_; (with_reducible refine (slices_ContainsFunc_int64_int64__value_times_1.calls k _ _ l0  false _ ?side1 ?side2 A10.out).mono ?_); (case side1 => repeat (first | exact (Kd.C_below HR0.out HB.out) | (with_reducible refine Kd.C_alloc ?_ _) | (with_reducible refine Kd.C_drewN ?_ _) | (with_reducible refine Kd.C_drew ?_))); (case side2 => exact HC0.out); rintro e w16 ⟨rfl, hb⟩; refine ⟨_, rfl, ?_⟩; have n0_ := Aside0.mk (blk_below (g := gb312) (o := .cells #[.int .i64 a1] 2 (0, 0)) (by (with_reducible repeat (first | refine blk_drewN ?_ _ | refine blk_drew ?_ | refine blk_alloc ?_ _)); exact BK312.out) hb); have n1_ := Aside0.mk (blk_below (g := gb313) (o := .cells #[.int .i64 a2] 2 (0, 0)) (by (with_reducible repeat (first | refine blk_drewN ?_ _ | refine blk_drew ?_ | refine blk_alloc ?_ _)); exact BK313.out) hb); have n2_ := Aside0.mk (below_step (by repeat (first | (with_reducible first | exact HB.out | apply below_alloc | apply pw_below_drewN | apply below_drew1 | refine below_set ?_ GE312.out | refine below_set ?_ GE313.out) | exact HB.out)) hb); clear BK312; clear BK313; clear HB; have BK312 := n0_; have BK313 := n1_; have HB := n2_; clear n0_ n1_ n2_; (try clear hb); (try clear hb2); (try clear hk); (try clear hi); have hnb17 := NB312_313.out; have hnc17 := NB313_312.out; have hcz18_0 : w16.cell? ⟨gb312, 0, none⟩ = some (.int .i64 a1) := (blk_cell BK312.out 0).trans rfl; have hfz18_0 := blk_frozen BK312.out 0) | (go_at_call 30; (with_reducible refine (rate_May.calls a1 true _ A13.out).mono ?_); rintro e w' ⟨rfl, ⟨nd, rfl⟩⟩; have hcz19_0 : w16.cell? ⟨gb313, 0, none⟩ = some (.int .i64 a2) := (blk_cell BK313.out 0).trans rfl; have hfz19_0 := blk_frozen BK313.out 0) | ((with_reducible refine gate_callee (f := 56) rfl ?_); refine goesL_ (some 24) rfl rfl Try.func56 (by kernel_rfl) rfl #[.slice A0 l0.length c0, .int .i64 0, .func (.func 57) #[] #[.pointer (some ⟨gb313, 0, none⟩), .pointer (some ⟨gb312, 0, none⟩)]] rfl (by (try simp only [List.map_toArray, List.map_cons, List.map_nil]); first | done | rfl | (simp only [List.length_drop, List.length_take]; rfl)) ?_; (with_reducible refine (value_fold_int64_int64__value_times_2.calls k _ _ l0 0 gb313 a2 gb312 a1 t316 t317 _ ?side1 ?side2 ?side3 ?side4 A15.out).mono ?_); (case side1 => repeat (first | exact (Kd.C_below HR0.out (by repeat (first | (with_reducible first | exact HB.out | apply below_alloc | apply pw_below_drewN | apply below_drew1 | refine below_set ?_ GE312.out | refine below_set ?_ GE313.out) | exact HB.out))) | (with_reducible refine Kd.C_alloc ?_ _) | (with_reducible refine Kd.C_drewN ?_ _) | (with_reducible refine Kd.C_drew ?_))); (case side2 => exact HC0.out); (case side3 => (with_reducible repeat (first | refine blk_drewN ?_ _ | refine blk_drew ?_ | refine blk_alloc ?_ _)); exact BK313.out); (case side4 => (with_reducible repeat (first | refine blk_drewN ?_ _ | refine blk_drew ?_ | refine blk_alloc ?_ _)); exact BK312.out); rintro e w20 ⟨v318, rfl, ho0, hb⟩; refine ⟨_, rfl, ?_⟩; have n0_ := Aside0.mk (Kd.R_lower (Kd.R_newB (Kd.R_newB ho0 (g := gb312) (o := .cells #[.int .i64 a1] 2 (0, 0)) (by (with_reducible repeat (first | refine blk_drewN ?_ _ | refine blk_drew ?_ | refine blk_alloc ?_ _)); exact BK312.out)) (g := gb313) (o := .cells #[.int .i64 a2] 2 (0, 0)) (by (with_reducible repeat (first | refine blk_drewN ?_ _ | refine blk_drew ?_ | refine blk_alloc ?_ _)); exact BK313.out)) (below_size (by repeat (first | (with_reducible first | exact HB.out | apply below_alloc | apply pw_below_drewN | apply below_drew1 | refine below_set ?_ GE312.out | refine below_set ?_ GE313.out) | exact HB.out)))); have n1_ := Aside0.mk (blk_below (g := gb312) (o := .cells #[.int .i64 a1] 2 (0, 0)) (by (with_reducible repeat (first | refine blk_drewN ?_ _ | refine blk_drew ?_ | refine blk_alloc ?_ _)); exact BK312.out) hb); have n2_ := Aside0.mk (blk_below (g := gb313) (o := .cells #[.int .i64 a2] 2 (0, 0)) (by (with_reducible repeat (first | refine blk_drewN ?_ _ | refine blk_drew ?_ | refine blk_alloc ?_ _)); exact BK313.out) hb); have n3_ := Aside0.mk (below_step (by repeat (first | (with_reducible first | exact HB.out | apply below_alloc | apply pw_below_drewN | apply below_drew1 | refine below_set ?_ GE312.out | refine below_set ?_ GE313.out) | exact HB.out)) hb); clear BK312; clear BK313; clear HB; have HO319 := n0_; have BK312 := n1_; have BK313 := n2_; have HB := n3_; clear n0_ n1_ n2_ n3_; (try clear hb); (try clear hb2); (try clear hk); (try clear hi); (try clear ho0)))
        go_ret2
        exact ⟨_, by first | rfl | (simp [errW_none, errW_some] <;> rfl) | (simp [*, errW_none, errW_some] <;> rfl), by (with_reducible repeat (first | apply Kd.R_alloc | apply Kd.R_drewN | apply Kd.R_drew)); exact Kd.R_mono HO319.out (fun _ hk => trivial), by repeat (first | (with_reducible first | exact HB.out | apply below_alloc | apply pw_below_drewN | apply below_drew1 | refine below_set ?_ GE312.out | refine below_set ?_ GE313.out) | exact HB.out)⟩
      · replace c14 := Bool.eq_false_iff.mpr c14
        subst c14
        have H1 : (some (([] : List Int), 2)) = some (r1, r2) := by rw [if_neg (show ¬ (false = true) by decide)] at H; exact H
        clear H
        have H := H1
        clear H1
        simp only [Option.some.injEq, Prod.mk.injEq] at H
        obtain ⟨rfl, rfl⟩ := H
        go_wp2_with (first | ((with_reducible refine gate_callee (f := 55) rfl ?_); refine goesL_ (some 16) rfl rfl Try.func55 (by kernel_rfl) rfl #[.slice A0 l0.length c0, .func (.func 53) #[] #[]] rfl (by (try simp only [List.map_toArray, List.map_cons, List.map_nil]); first | done | rfl | (simp only [List.length_drop, List.length_take]; rfl)) ?_; (with_reducible refine (slices_ContainsFunc_int64_int64__value_times_1.calls k _ _ l0  false _ ?side1 ?side2 A10.out).mono ?_); (case side1 => repeat (first | exact (Kd.C_below HR0.out HB.out) | (with_reducible refine Kd.C_alloc ?_ _) | (with_reducible refine Kd.C_drewN ?_ _) | (with_reducible refine Kd.C_drew ?_))); (case side2 => exact HC0.out); rintro e w21 ⟨rfl, hb⟩; refine ⟨_, rfl, ?_⟩; have n0_ := Aside0.mk (blk_below (g := gb312) (o := .cells #[.int .i64 a1] 2 (0, 0)) (by (with_reducible repeat (first | refine blk_drewN ?_ _ | refine blk_drew ?_ | refine blk_alloc ?_ _)); exact BK312.out) hb); have n1_ := Aside0.mk (blk_below (g := gb313) (o := .cells #[.int .i64 a2] 2 (0, 0)) (by (with_reducible repeat (first | refine blk_drewN ?_ _ | refine blk_drew ?_ | refine blk_alloc ?_ _)); exact BK313.out) hb); have n2_ := Aside0.mk (below_step (by repeat (first | (with_reducible first | exact HB.out | apply below_alloc | apply pw_below_drewN | apply below_drew1 | refine below_set ?_ GE312.out | refine below_set ?_ GE313.out) | exact HB.out)) hb); clear BK312; clear BK313; clear HB; have BK312 := n0_; have BK313 := n1_; have HB := n2_; clear n0_ n1_ n2_; (try clear hb); (try clear hb2); (try clear hk); (try clear hi); have hnb22 := NB312_313.out; have hnc22 := NB313_312.out; have hcz23_0 : w21.cell? ⟨gb312, 0, none⟩ = some (.int .i64 a1) := (blk_cell BK312.out 0).trans rfl; have hfz23_0 := blk_frozen BK312.out 0) | (go_at_call 30; (with_reducible refine (rate_May.calls a1 false _ A13.out).mono ?_); rintro e w' ⟨rfl, ⟨nd, rfl⟩⟩))
        go_ret2
        exact ⟨_, by first | rfl | (simp [errW_none, errW_some] <;> rfl) | (simp [*, errW_none, errW_some] <;> rfl), by first | exact Kd.R_nil _ _ _ _ _ | exact Kd.N_nil _ _ _ _ _ | exact Kd.V_nil _ _ _ _ _ | exact Kd.Q_nil _ _ _ _ _ | exact Kd.S_nil _ _ _ _ _, by repeat (first | (with_reducible first | exact HB.out | apply below_alloc | apply pw_below_drewN | apply below_drew1 | refine below_set ?_ GE312.out | refine below_set ?_ GE313.out) | exact HB.out)⟩

end Go.Proofs.Ytalnlphinlfenaa.S
end

section
namespace Go.Proofs.Ytalnlphinlfenaa.S
open Go.RowKit Go.Proofs.YtalnlphinlfenaaW.PrintWords Go.Proofs.YtalnlphinlfenaaW.PrintLast Go.Proofs.YtalnlphinlfenaaW.PrintMore
attribute [local go_sem] max2_int min2_int max_two min_two max_three min_three max_four min_four   -- for this text's walks alone
attribute [local go_sem] Go.Proofs.Ytalnlphinlfenaa.XWalk.cell2
set_option linter.unusedVariables false
set_option linter.unusedSimpArgs false

/-! ### value_now: function 39 -/
def value_now.f (k : Nat) (l0 : List Int) (a1 : Int) (a2 : Int) : Option (Int × Int) := (value_times.f k l0 a1 a2).bind fun bt324 => (if bt324.2 = 0 then (if 0 < (bt324.1.length : Int) then (some (rd bt324.1 0, 0)) else (none)) else (some (0, bt324.2)))
set_option maxHeartbeats 8000000 in
set_option maxRecDepth 100000 in
theorem value_now.calls (k : Nat) (A0 : Option Addr) (c0 : Nat) (l0 : List Int) (a1 : Int) (a2 : Int) (r1 : Int) (r2 : Int) (w : World) (hr0 : Kd.C (Kd.int .i64) w A0 l0.length l0) (hc0 : l0.length ≤ c0) (h : value_now.f k l0 a1 a2 = some (r1, r2)) :
    Calls Try.prog 39 #[.slice A0 l0.length c0, .int .i64 a1, .int .i64 a2] w fun e w' => e = .returned (.tuple #[.int .i64 r1, .int .i64 r2]) ∧ Below w.heap.size w w' := by
  have HR0 := Aside0.mk hr0
  have HC0 := Aside0.mk hc0
  clear hr0 hc0
  have HB := Aside0.mk (Below.refl w.heap.size w)
  have H : ((value_times.f k l0 a1 a2).bind fun bt324 => (if bt324.2 = 0 then (if 0 < (bt324.1.length : Int) then (some (rd bt324.1 0, 0)) else (none)) else (some (0, bt324.2)))) = some (r1, r2) := h
  clear h
  replace H := Option.bind_eq_some_iff.mp H
  obtain ⟨⟨t324, t325⟩, A40, H⟩ := H
  replace H : (if t325 = 0 then (if 0 < (t324.length : Int) then (some (rd t324 0, 0)) else (none)) else (some (0, t325))) = some (r1, r2) := H
  have A4 := Aside0.mk A40
  clear A40
  by_cases c5 : t325 = 0
  · rw [if_pos c5] at H
    have c5b0 : (t325 == 0) = true := beq_iff_eq.mpr c5
    have c5b1 : (t325 != 0) = false := bne_eq_false_iff_eq.mpr c5
    clear c5
    by_cases c6 : 0 < (t324.length : Int)
    · rw [if_pos c6] at H
      have c6b0 : decide (0 < (t324.length : Int)) = true := decide_eq_true c6
      have c6b1 : decide (0 < t324.length) = true := decide_eq_true (by omega)
      clear c6
      simp only [Option.some.injEq, Prod.mk.injEq] at H
      obtain ⟨rfl, rfl⟩ := H
      go_enter Try.func39, Try.ntmps39
      go_wp2_with (first | ((with_reducible refine gate_callee (f := 38) rfl ?_); refine goesL_ (some 14) rfl rfl Try.func38 (by kernel_rfl) rfl #[.slice A0 l0.length c0, .int .i64 a1, .int .i64 a2] rfl (by (try simp only [List.map_toArray, List.map_cons, List.map_nil]); first | done | rfl | (simp only [List.length_drop, List.length_take]; rfl)) ?_; (with_reducible refine (value_times.calls k _ _ l0 a1 a2 t324 t325 _ ?side1 ?side2 A4.out).mono ?_); (case side1 => repeat (first | exact HR0.out | (with_reducible refine Kd.C_alloc ?_ _) | (with_reducible refine Kd.C_drewN ?_ _) | (with_reducible refine Kd.C_drew ?_))); (case side2 => exact HC0.out); rintro e w7 ⟨v326, rfl, ho0, hb⟩; refine ⟨_, rfl, ?_⟩; have n0_ := Aside0.mk (Kd.R_lower ho0 (below_size (by repeat (first | (with_reducible first | exact HB.out | apply below_alloc | apply pw_below_drewN | apply below_drew1) | exact HB.out)))); have n1_ := Aside0.mk (below_step (by repeat (first | (with_reducible first | exact HB.out | apply below_alloc | apply pw_below_drewN | apply below_drew1) | exact HB.out)) hb); clear HB; have HO327 := n0_; have HB := n1_; clear n0_ n1_; (try clear hb); (try clear hb2); (try clear hk); (try clear hi); (try clear ho0); obtain ⟨Ao8, co8, eo8⟩ := Kd.R_slice HO327.out; subst eo8; have p328 : 0 ≤ (0 : Int) := (by omega); have q328 : 0 < (t324.length : Int) := of_decide_eq_true (by first | (with_reducible assumption) | assumption); obtain ⟨ad328, e328, hx328_0⟩ := Kd.at_int (Kd.R_reads' HO327.out).2.2 0 p328 q328; cases e328; have qi328 : (0 < t324.length) = True := eq_true (by omega); (try rw [show ((0 : Int)).toNat = 0 from rfl] at hx328_0); (try rw [Addr.add_zero'] at hx328_0); replace p328 := eq_true p328; replace q328 := eq_true q328))
      go_ret2
      exact ⟨by first | rfl | (simp [errW_none, errW_some] <;> rfl) | (simp [*, errW_none, errW_some] <;> rfl), by repeat (first | (with_reducible first | exact HB.out | apply below_alloc | apply pw_below_drewN | apply below_drew1) | exact HB.out)⟩
    · rw [if_neg c6] at H
      exact absurd H (by simp)
  · rw [if_neg c5] at H
    have c5b0 : (t325 == 0) = false := beq_eq_false_iff_ne.mpr c5
    have c5b1 : (t325 != 0) = true := bne_iff_ne.mpr c5
    simp only [Option.some.injEq, Prod.mk.injEq] at H
    obtain ⟨rfl, rfl⟩ := H
    go_enter Try.func39, Try.ntmps39
    go_wp2_with (first | ((with_reducible refine gate_callee (f := 38) rfl ?_); refine goesL_ (some 14) rfl rfl Try.func38 (by kernel_rfl) rfl #[.slice A0 l0.length c0, .int .i64 a1, .int .i64 a2] rfl (by (try simp only [List.map_toArray, List.map_cons, List.map_nil]); first | done | rfl | (simp only [List.length_drop, List.length_take]; rfl)) ?_; (with_reducible refine (value_times.calls k _ _ l0 a1 a2 t324 t325 _ ?side1 ?side2 A4.out).mono ?_); (case side1 => repeat (first | exact HR0.out | (with_reducible refine Kd.C_alloc ?_ _) | (with_reducible refine Kd.C_drewN ?_ _) | (with_reducible refine Kd.C_drew ?_))); (case side2 => exact HC0.out); rintro e w9 ⟨v326, rfl, ho0, hb⟩; refine ⟨_, rfl, ?_⟩; have n0_ := Aside0.mk (Kd.R_lower ho0 (below_size (by repeat (first | (with_reducible first | exact HB.out | apply below_alloc | apply pw_below_drewN | apply below_drew1) | exact HB.out)))); have n1_ := Aside0.mk (below_step (by repeat (first | (with_reducible first | exact HB.out | apply below_alloc | apply pw_below_drewN | apply below_drew1) | exact HB.out)) hb); clear HB; have HO327 := n0_; have HB := n1_; clear n0_ n1_; (try clear hb); (try clear hb2); (try clear hk); (try clear hi); (try clear ho0)))
    go_ret2
    exact ⟨by first | rfl | (simp [errW_none, errW_some] <;> rfl) | (simp [*, errW_none, errW_some] <;> rfl), by repeat (first | (with_reducible first | exact HB.out | apply below_alloc | apply pw_below_drewN | apply below_drew1) | exact HB.out)⟩

end Go.Proofs.Ytalnlphinlfenaa.S
end

section
namespace Go.Proofs.Ytalnlphinlfenaa.S
open Go.RowKit Go.Proofs.YtalnlphinlfenaaW.PrintWords Go.Proofs.YtalnlphinlfenaaW.PrintLast Go.Proofs.YtalnlphinlfenaaW.PrintMore
attribute [local go_sem] max2_int min2_int max_two min_two max_three min_three max_four min_four   -- for this text's walks alone
attribute [local go_sem] Go.Proofs.Ytalnlphinlfenaa.XWalk.cell2
set_option linter.unusedVariables false
set_option linter.unusedSimpArgs false

/-! ### value_Of: function 18 -/
def value_Of.f (k : Nat) (l0 : List Int) (a1 : Int) : Option (Int × Int) := (value_now.f k l0 a1 1).bind fun bt329 => (some (bt329.1, bt329.2))
set_option maxHeartbeats 8000000 in
set_option maxRecDepth 100000 in
theorem value_Of.calls (k : Nat) (A0 : Option Addr) (c0 : Nat) (l0 : List Int) (a1 : Int) (r1 : Int) (r2 : Int) (w : World) (hr0 : Kd.C (Kd.int .i64) w A0 l0.length l0) (hc0 : l0.length ≤ c0) (h : value_Of.f k l0 a1 = some (r1, r2)) :
    Calls Try.prog 18 #[.slice A0 l0.length c0, .int .i64 a1] w fun e w' => e = .returned (.tuple #[.int .i64 r1, .int .i64 r2]) ∧ Below w.heap.size w w' := by
  have HR0 := Aside0.mk hr0
  have HC0 := Aside0.mk hc0
  clear hr0 hc0
  have HB := Aside0.mk (Below.refl w.heap.size w)
  have H : ((value_now.f k l0 a1 1).bind fun bt329 => (some (bt329.1, bt329.2))) = some (r1, r2) := h
  clear h
  replace H := Option.bind_eq_some_iff.mp H
  obtain ⟨⟨t329, t330⟩, A30, H⟩ := H
  replace H : (some (t329, t330)) = some (r1, r2) := H
  have A3 := Aside0.mk A30
  clear A30
  simp only [Option.some.injEq, Prod.mk.injEq] at H
  obtain ⟨rfl, rfl⟩ := H
  go_enter Try.func18, Try.ntmps18
  go_wp2_with (first | ((with_reducible refine gate_callee (f := 39) rfl ?_); refine goesL_ (some 8) rfl rfl Try.func39 (by kernel_rfl) rfl #[.slice A0 l0.length c0, .int .i64 a1, .int .i64 1] rfl (by (try simp only [List.map_toArray, List.map_cons, List.map_nil]); first | done | rfl | (simp only [List.length_drop, List.length_take]; rfl)) ?_; (with_reducible refine (value_now.calls k _ _ l0 a1 1 t329 t330 _ ?side1 ?side2 A3.out).mono ?_); (case side1 => repeat (first | exact HR0.out | (with_reducible refine Kd.C_alloc ?_ _) | (with_reducible refine Kd.C_drewN ?_ _) | (with_reducible refine Kd.C_drew ?_))); (case side2 => exact HC0.out); rintro e w4 ⟨rfl, hb⟩; refine ⟨_, rfl, ?_⟩; have n0_ := Aside0.mk (below_step (by repeat (first | (with_reducible first | exact HB.out | apply below_alloc | apply pw_below_drewN | apply below_drew1) | exact HB.out)) hb); clear HB; have HB := n0_; clear n0_; (try clear hb); (try clear hb2); (try clear hk); (try clear hi)))
  go_ret2
  exact ⟨by first | rfl | (simp [errW_none, errW_some] <;> rfl) | (simp [*, errW_none, errW_some] <;> rfl), by repeat (first | (with_reducible first | exact HB.out | apply below_alloc | apply pw_below_drewN | apply below_drew1) | exact HB.out)⟩

end Go.Proofs.Ytalnlphinlfenaa.S
end

section
namespace Go.Proofs.Ytalnlphinlfenaa.S
open Go.RowKit Go.Proofs.YtalnlphinlfenaaW.PrintWords Go.Proofs.YtalnlphinlfenaaW.PrintLast Go.Proofs.YtalnlphinlfenaaW.PrintMore
attribute [local go_sem] max2_int min2_int max_two min_two max_three min_three max_four min_four   -- for this text's walks alone
attribute [local go_sem] Go.Proofs.Ytalnlphinlfenaa.XWalk.cell2
set_option linter.unusedVariables false
set_option linter.unusedSimpArgs false

/-! ### value_All: function 17 -/
def value_All.f (k : Nat) (l0 : List Int) (a1 : Int) : Option (List Int × Int) := (value_times.f k l0 a1 1).bind fun bt320 => (some (bt320.1, bt320.2))
set_option maxHeartbeats 8000000 in
set_option maxRecDepth 100000 in
theorem value_All.calls (k : Nat) (A0 : Option Addr) (c0 : Nat) (l0 : List Int) (a1 : Int) (r1 : List Int) (r2 : Int) (w : World) (hr0 : Kd.C (Kd.int .i64) w A0 l0.length l0) (hc0 : l0.length ≤ c0) (h : value_All.f k l0 a1 = some (r1, r2)) :
    Calls Try.prog 17 #[.slice A0 l0.length c0, .int .i64 a1] w fun e w' => ∃ v0_ : Value, e = .returned (.tuple #[v0_, .int .i64 r2]) ∧ Kd.R (Kd.int .i64) 2 w' w.heap.size (fun _ => True) v0_ r1 ∧ Below w.heap.size w w' := by
  have HR0 := Aside0.mk hr0
  have HC0 := Aside0.mk hc0
  clear hr0 hc0
  have HB := Aside0.mk (Below.refl w.heap.size w)
  have H : ((value_times.f k l0 a1 1).bind fun bt320 => (some (bt320.1, bt320.2))) = some (r1, r2) := h
  clear h
  replace H := Option.bind_eq_some_iff.mp H
  obtain ⟨⟨t320, t321⟩, A30, H⟩ := H
  replace H : (some (t320, t321)) = some (r1, r2) := H
  have A3 := Aside0.mk A30
  clear A30
  simp only [Option.some.injEq, Prod.mk.injEq] at H
  obtain ⟨rfl, rfl⟩ := H
  go_enter Try.func17, Try.ntmps17
  go_wp2_with (first | ((with_reducible refine gate_callee (f := 38) rfl ?_); refine goesL_ (some 8) rfl rfl Try.func38 (by kernel_rfl) rfl #[.slice A0 l0.length c0, .int .i64 a1, .int .i64 1] rfl (by (try simp only [List.map_toArray, List.map_cons, List.map_nil]); first | done | rfl | (simp only [List.length_drop, List.length_take]; rfl)) ?_; (with_reducible refine (value_times.calls k _ _ l0 a1 1 t320 t321 _ ?side1 ?side2 A3.out).mono ?_); (case side1 => repeat (first | exact HR0.out | (with_reducible refine Kd.C_alloc ?_ _) | (with_reducible refine Kd.C_drewN ?_ _) | (with_reducible refine Kd.C_drew ?_))); (case side2 => exact HC0.out); rintro e w4 ⟨v322, rfl, ho0, hb⟩; refine ⟨_, rfl, ?_⟩; have n0_ := Aside0.mk (Kd.R_lower ho0 (below_size (by repeat (first | (with_reducible first | exact HB.out | apply below_alloc | apply pw_below_drewN | apply below_drew1) | exact HB.out)))); have n1_ := Aside0.mk (below_step (by repeat (first | (with_reducible first | exact HB.out | apply below_alloc | apply pw_below_drewN | apply below_drew1) | exact HB.out)) hb); clear HB; have HO323 := n0_; have HB := n1_; clear n0_ n1_; (try clear hb); (try clear hb2); (try clear hk); (try clear hi); (try clear ho0)))
  go_ret2
  exact ⟨_, by first | rfl | (simp [errW_none, errW_some] <;> rfl) | (simp [*, errW_none, errW_some] <;> rfl), by (with_reducible repeat (first | apply Kd.R_alloc | apply Kd.R_drewN | apply Kd.R_drew)); exact HO323.out, by repeat (first | (with_reducible first | exact HB.out | apply below_alloc | apply pw_below_drewN | apply below_drew1) | exact HB.out)⟩

end Go.Proofs.Ytalnlphinlfenaa.S
end

section
namespace Go.Proofs.Ytalnlphinlfenaa.S
open Go.RowKit Go.Proofs.YtalnlphinlfenaaW.PrintWords Go.Proofs.YtalnlphinlfenaaW.PrintLast Go.Proofs.YtalnlphinlfenaaW.PrintMore
attribute [local go_sem] max2_int min2_int max_two min_two max_three min_three max_four min_four   -- for this text's walks alone
attribute [local go_sem] Go.Proofs.Ytalnlphinlfenaa.XWalk.cell2
set_option linter.unusedVariables false
set_option linter.unusedSimpArgs false

/-! ### lombardref01_Same: function 37 -/
def lombardref01_Same.l0 : Nat → List Int → List Int → Int → Int → Option (Bool)
  | 0, _, _, _, _ => none
  | k + 1, x0, x1, x12, x13 => if x13 < x12 then (if 0 ≤ x13 then (if x13 < (x0.length : Int) then (if x13 < (x1.length : Int) then (if (rd x0 x13) = (rd x1 x13) then (lombardref01_Same.l0 k x0 x1 x12 (wrap64 (x13 + 1))) else (some false)) else (none)) else (none)) else (none)) else (some true)
def lombardref01_Same.f (k : Nat) (l0 : List Int) (l1 : List Int) : Option (Bool) := if (l0.length : Int) = (l1.length : Int) then (lombardref01_Same.l0 k l0 l1 (l0.length : Int) 0) else (some false)
set_option maxHeartbeats 8000000 in
set_option maxRecDepth 100000 in
theorem lombardref01_Same.calls (k : Nat) (A0 : Option Addr) (c0 : Nat) (l0 : List Int) (A1 : Option Addr) (c1 : Nat) (l1 : List Int) (r : Bool) (w : World) (hr0 : Kd.C (Kd.int .i64) w A0 l0.length l0) (hc0 : l0.length ≤ c0) (hr1 : Kd.C (Kd.int .i64) w A1 l1.length l1) (hc1 : l1.length ≤ c1) (h : lombardref01_Same.f k l0 l1 = some r) :
    Calls Try.prog 37 #[.slice A0 l0.length c0, .slice A1 l1.length c1] w fun e w' => e = .returned (.bool r) ∧ Drawn0 w w' := by
  have HR0 := Aside0.mk hr0
  have HC0 := Aside0.mk hc0
  clear hr0 hc0
  have HR1 := Aside0.mk hr1
  have HC1 := Aside0.mk hc1
  clear hr1 hc1
  have H : (if (l0.length : Int) = (l1.length : Int) then (lombardref01_Same.l0 k l0 l1 (l0.length : Int) 0) else (some false)) = some r := h
  clear h
  by_cases c3 : (l0.length : Int) = (l1.length : Int)
  · rw [if_pos c3] at H
    have c3b0 : ((l0.length : Int) == (l1.length : Int)) = true := beq_iff_eq.mpr c3
    have c3b1 : ((l0.length : Int) != (l1.length : Int)) = false := bne_eq_false_iff_eq.mpr c3
    have c3b2 : (l0.length == l1.length) = true := by first | simpa using c3 | (simp at c3 ⊢; omega)
    clear c3
    have H' := Aside0.mk H
    clear H
    go_enter Try.func37, Try.ntmps37
    go_wp2
    repeat (go_quiet (fail); try go_wp2)
    go_loopg [13] k (fun kq v13 w' => ∃ (x13_1 : Int), v13 = .int .i64 x13_1 ∧ Aside0 (lombardref01_Same.l0 kq l0 l1 (l0.length : Int) x13_1 = some r) ∧ Aside0 (kq ≤ k) ∧ Drawn0 w w')
    case atStart => exact ⟨(0), (by first | rfl | (simp; done) | (simp [*]; done)), H', ⟨Nat.le_refl _⟩, by repeat (first | exact Drawn0.refl _ | apply Drawn0.step)⟩
    case round =>
      clear H'
      try clear c1
      try clear p2
      try clear c3
      try clear c3b0
      try clear c3b1
      try clear c3b2
      obtain ⟨x13_1, rfl, HA, HK1, ⟨m1, rfl⟩⟩ := hrel
      cases gk with
      | zero => exact absurd HA.out (by simp [lombardref01_Same.l0])
      | succ k1 =>
        have H := HA.out
        clear HA
        simp only [lombardref01_Same.l0] at H
        by_cases c4 : x13_1 < (l0.length : Int)
        · rw [if_pos c4] at H
          have c4b0 : decide (x13_1 < (l0.length : Int)) = true := decide_eq_true c4
          clear c4
          by_cases c5 : 0 ≤ x13_1
          · rw [if_pos c5] at H
            have c5b0 : decide (0 ≤ x13_1) = true := decide_eq_true c5
            clear c5
            by_cases c6 : x13_1 < (l0.length : Int)
            · rw [if_pos c6] at H
              have c6b0 : decide (x13_1 < (l0.length : Int)) = true := decide_eq_true c6
              clear c6
              by_cases c7 : x13_1 < (l1.length : Int)
              · rw [if_pos c7] at H
                have c7b0 : decide (x13_1 < (l1.length : Int)) = true := decide_eq_true c7
                clear c7
                by_cases c8 : (rd l0 x13_1) = (rd l1 x13_1)
                · rw [if_pos c8] at H
                  have c8b0 : ((rd l0 x13_1) == (rd l1 x13_1)) = true := beq_iff_eq.mpr c8
                  have c8b1 : ((rd l0 x13_1) != (rd l1 x13_1)) = false := bne_eq_false_iff_eq.mpr c8
                  clear c8
                  have H' := Aside0.mk H
                  clear H
                  have p331 : 0 ≤ (x13_1 : Int) := of_decide_eq_true (by first | (with_reducible assumption) | assumption)
                  have q331 : x13_1 < (l0.length : Int) := of_decide_eq_true (by first | (with_reducible assumption) | assumption)
                  obtain ⟨ad331, e331, hx331_0⟩ := Kd.at_int HR0.out x13_1 p331 q331
                  cases e331
                  replace p331 := eq_true p331
                  replace q331 := eq_true q331
                  have p332 : 0 ≤ (x13_1 : Int) := of_decide_eq_true (by first | (with_reducible assumption) | assumption)
                  have q332 : x13_1 < (l1.length : Int) := of_decide_eq_true (by first | (with_reducible assumption) | assumption)
                  obtain ⟨ad332, e332, hx332_0⟩ := Kd.at_int HR1.out x13_1 p332 q332
                  cases e332
                  replace p332 := eq_true p332
                  replace q332 := eq_true q332
                  go_wp2
                  repeat (go_quiet (fail); try go_wp2)
                  go_roundg k1
                  case measure => have := HK1.out; omega
                  case rel => exact ⟨(wrap64 (x13_1 + 1)), (by first | rfl | (simp; done) | (simp [*]; done)), H', ⟨by have := HK1.out; omega⟩, by repeat (first | exact Drawn0.refl _ | apply Drawn0.step)⟩
                · rw [if_neg c8] at H
                  have c8b0 : ((rd l0 x13_1) == (rd l1 x13_1)) = false := beq_eq_false_iff_ne.mpr c8
                  have c8b1 : ((rd l0 x13_1) != (rd l1 x13_1)) = true := bne_iff_ne.mpr c8
                  obtain rfl := Option.some.inj H
                  have p331 : 0 ≤ (x13_1 : Int) := of_decide_eq_true (by first | (with_reducible assumption) | assumption)
                  have q331 : x13_1 < (l0.length : Int) := of_decide_eq_true (by first | (with_reducible assumption) | assumption)
                  obtain ⟨ad331, e331, hx331_0⟩ := Kd.at_int HR0.out x13_1 p331 q331
                  cases e331
                  replace p331 := eq_true p331
                  replace q331 := eq_true q331
                  have p332 : 0 ≤ (x13_1 : Int) := of_decide_eq_true (by first | (with_reducible assumption) | assumption)
                  have q332 : x13_1 < (l1.length : Int) := of_decide_eq_true (by first | (with_reducible assumption) | assumption)
                  obtain ⟨ad332, e332, hx332_0⟩ := Kd.at_int HR1.out x13_1 p332 q332
                  cases e332
                  replace p332 := eq_true p332
                  replace q332 := eq_true q332
                  go_wp2
                  repeat (go_quiet (fail); try go_wp2)
                  go_ret
                  exact ⟨by first | rfl | (simp; done) | (simp [*]; done), by repeat (first | exact Drawn0.refl _ | apply Drawn0.step)⟩
              · rw [if_neg c7] at H
                exact absurd H (by simp)
            · rw [if_neg c6] at H
              exact absurd H (by simp)
          · rw [if_neg c5] at H
            exact absurd H (by simp)
        · rw [if_neg c4] at H
          have c4b0 : decide (x13_1 < (l0.length : Int)) = false := decide_eq_false c4
          clear c4
          obtain rfl := Option.some.inj H
          go_wp2
          repeat (go_quiet (fail); try go_wp2)
          go_ret
          exact ⟨by first | rfl | (simp; done) | (simp [*]; done), by repeat (first | exact Drawn0.refl _ | apply Drawn0.step)⟩
  · rw [if_neg c3] at H
    have c3b0 : ((l0.length : Int) == (l1.length : Int)) = false := beq_eq_false_iff_ne.mpr c3
    have c3b1 : ((l0.length : Int) != (l1.length : Int)) = true := bne_iff_ne.mpr c3
    have c3b2 : (l0.length == l1.length) = false := by first | simpa using c3 | (simp at c3 ⊢; omega)
    obtain rfl := Option.some.inj H
    go_enter Try.func37, Try.ntmps37
    go_wp2
    repeat (go_quiet (fail); try go_wp2)
    go_ret
    exact ⟨by first | rfl | (simp; done) | (simp [*]; done), by repeat (first | exact Drawn0.refl _ | apply Drawn0.step)⟩

end Go.Proofs.Ytalnlphinlfenaa.S
end

section
namespace Go.Proofs.Ytalnlphinlfenaa.S
open Go.RowKit Go.Proofs.YtalnlphinlfenaaW.PrintWords Go.Proofs.YtalnlphinlfenaaW.PrintLast Go.Proofs.YtalnlphinlfenaaW.PrintMore
attribute [local go_sem] max2_int min2_int max_two min_two max_three min_three max_four min_four   -- for this text's walks alone
attribute [local go_sem] Go.Proofs.Ytalnlphinlfenaa.XWalk.cell2
set_option linter.unusedVariables false
set_option linter.unusedSimpArgs false

/-! ### lombardlaw09_alive: function 16 -/
def lombardlaw09_alive.f (k : Nat)  : Option (Bool) := (value_Of.f k (([105] : List Int)) 50000000000).bind fun bt336 => ((value_All.f k (([10, 110] : List Int)) 100000000000).bind fun bt341 => (if bt336.1 = 100 then (if bt336.2 = 0 then (if bt341.2 = 0 then ((lombardref01_Same.f k bt341.1 (([100, 100, 0] : List Int))).bind fun t348 => (some t348)) else (some false)) else (some false)) else (some false)))
set_option maxHeartbeats 8000000 in
set_option maxRecDepth 100000 in
theorem lombardlaw09_alive.calls (k : Nat)  (r : Bool) (w : World) (h : lombardlaw09_alive.f k  = some r) :
    Calls Try.prog 16 #[] w fun e w' => e = .returned (.bool r) ∧ Below w.heap.size w w' := by
  have HB := Aside0.mk (Below.refl w.heap.size w)
  have H : ((value_Of.f k (([105] : List Int)) 50000000000).bind fun bt336 => ((value_All.f k (([10, 110] : List Int)) 100000000000).bind fun bt341 => (if bt336.1 = 100 then (if bt336.2 = 0 then (if bt341.2 = 0 then ((lombardref01_Same.f k bt341.1 (([100, 100, 0] : List Int))).bind fun t348 => (some t348)) else (some false)) else (some false)) else (some false)))) = some r := h
  clear h
  obtain ⟨y333, hy333⟩ : ∃ y_ : List Int, y_ = (([105] : List Int)) := ⟨_, rfl⟩
  replace H : ((value_Of.f k y333 50000000000).bind fun bt336 => ((value_All.f k (([10, 110] : List Int)) 100000000000).bind fun bt341 => (if bt336.1 = 100 then (if bt336.2 = 0 then (if bt341.2 = 0 then ((lombardref01_Same.f k bt341.1 (([100, 100, 0] : List Int))).bind fun t348 => (some t348)) else (some false)) else (some false)) else (some false)))) = some r := by first | (rw [hy333]; with_reducible exact H) | (have H2_ := (Option.bind_some _ _).symm.trans H; rw [hy333]; with_reducible exact H2_) | (have H2_ := (Option.bind_some _ _).symm.trans H; with_reducible exact H2_) | with_reducible exact H | (rw [hy333]; exact H) | exact H
  have Ny333 := Aside0.mk hy333
  clear hy333
  replace H := Option.bind_eq_some_iff.mp H
  obtain ⟨⟨t336, t337⟩, A10, H⟩ := H
  replace H : ((value_All.f k (([10, 110] : List Int)) 100000000000).bind fun bt341 => (if t336 = 100 then (if t337 = 0 then (if bt341.2 = 0 then ((lombardref01_Same.f k bt341.1 (([100, 100, 0] : List Int))).bind fun t348 => (some t348)) else (some false)) else (some false)) else (some false))) = some r := H
  have A1 := Aside0.mk A10
  clear A10
  obtain ⟨y338, hy338⟩ : ∃ y_ : List Int, y_ = (([10, 110] : List Int)) := ⟨_, rfl⟩
  replace H : ((value_All.f k y338 100000000000).bind fun bt341 => (if t336 = 100 then (if t337 = 0 then (if bt341.2 = 0 then ((lombardref01_Same.f k bt341.1 (([100, 100, 0] : List Int))).bind fun t348 => (some t348)) else (some false)) else (some false)) else (some false))) = some r := by first | (rw [hy338]; with_reducible exact H) | (have H2_ := (Option.bind_some _ _).symm.trans H; rw [hy338]; with_reducible exact H2_) | (have H2_ := (Option.bind_some _ _).symm.trans H; with_reducible exact H2_) | with_reducible exact H | (rw [hy338]; exact H) | exact H
  have Ny338 := Aside0.mk hy338
  clear hy338
  replace H := Option.bind_eq_some_iff.mp H
  obtain ⟨⟨t341, t342⟩, A20, H⟩ := H
  replace H : (if t336 = 100 then (if t337 = 0 then (if t342 = 0 then ((lombardref01_Same.f k t341 (([100, 100, 0] : List Int))).bind fun t348 => (some t348)) else (some false)) else (some false)) else (some false)) = some r := H
  have A2 := Aside0.mk A20
  clear A20
  have HC3 := Aside0.mk H
  clear H
  go_enter Try.func16, Try.ntmps16
  go_upto_region 3 with (first | ((with_reducible refine gate_dst (N := 6) rfl ?_); (try (refine gate_guard (by rfl) ?_; dsimp only)); refine Kd.R_lit (Kd.int .i64) _ 2 ?hg (N := 6) ?hd (xs := ([105] : List Int)) (inner := [.int .i64 105]) (ok := fun _ => True) (okp := fun _ => True) ?hr ?hp (fun _ hk => hk) trivial (Below.refl _ _) (Nat.le_refl _) (by simp) ?_; (case hd => rfl); (case hg => rfl); (case hr => first | (go_simp; done) | (go_simp; rfl)); (case hp => exact (Reps.one (show Kd.M (Kd.int .i64) _ _ _ 105 [.int .i64 105] from rfl) (Reps.none _ _))); intro v334 w4 ho5 hb hg_ hnew_; clear hg_ hnew_; (first | rw [← Ny333.out] at ho5 | (simp only [Int.reduceToNat] at ho5; rw [← Ny333.out] at ho5)); have n0_ := Aside0.mk (Kd.R_lower ho5 (below_size (by repeat (first | (with_reducible first | exact HB.out | apply below_alloc | apply pw_below_drewN | apply below_drew1) | exact HB.out)))); have n1_ := Aside0.mk (below_step (by repeat (first | (with_reducible first | exact HB.out | apply below_alloc | apply pw_below_drewN | apply below_drew1) | exact HB.out)) hb); clear HB; have HO335 := n0_; have HB := n1_; clear n0_ n1_; clear hb ho5; obtain ⟨Ao6, co6, eo6⟩ := Kd.R_slice HO335.out; subst eo6) | ((with_reducible refine gate_callee (f := 18) rfl ?_); refine goesL_ (some 7) rfl rfl Try.func18 (by kernel_rfl) rfl #[.slice Ao6 y333.length co6, .int .i64 50000000000] rfl (by (try simp only [List.map_toArray, List.map_cons, List.map_nil]); first | done | rfl | (simp only [List.length_drop, List.length_take]; rfl)) ?_; (with_reducible refine (value_Of.calls k _ _ y333 50000000000 t336 t337 _ ?side1 ?side2 A1.out).mono ?_); (case side1 => repeat (first | exact (Kd.R_reads' HO335.out).2.2 | (with_reducible refine Kd.C_alloc ?_ _) | (with_reducible refine Kd.C_drewN ?_ _) | (with_reducible refine Kd.C_drew ?_))); (case side2 => exact (Kd.R_reads' HO335.out).2.1); rintro e w7 ⟨rfl, hb⟩; refine ⟨_, rfl, ?_⟩; have n0_ := Aside0.mk (Kd.R_below (by (with_reducible repeat (first | apply Kd.R_alloc | apply Kd.R_drewN | apply Kd.R_drew)); exact HO335.out) hb); have n1_ := Aside0.mk (below_step (by repeat (first | (with_reducible first | exact HB.out | apply below_alloc | apply pw_below_drewN | apply below_drew1) | exact HB.out)) hb); clear HO335; clear HB; have HO335 := n0_; have HB := n1_; clear n0_ n1_; (try clear hb); (try clear hb2); (try clear hk); (try clear hi)) | ((with_reducible refine gate_dst (N := 11) rfl ?_); (try (refine gate_guard (by rfl) ?_; dsimp only)); refine Kd.R_lit (Kd.int .i64) _ 2 ?hg (N := 11) ?hd (xs := ([10, 110] : List Int)) (inner := [.int .i64 10, .int .i64 110]) (ok := fun _ => True) (okp := fun _ => True) ?hr ?hp (fun _ hk => hk) trivial (Below.refl _ _) (Nat.le_refl _) (by simp) ?_; (case hd => rfl); (case hg => rfl); (case hr => first | (go_simp; done) | (go_simp; rfl)); (case hp => exact (Reps.one (show Kd.M (Kd.int .i64) _ _ _ 10 [.int .i64 10] from rfl) (Reps.one (show Kd.M (Kd.int .i64) _ _ _ 110 [.int .i64 110] from rfl) (Reps.none _ _)))); intro v339 w8 ho9 hb hg_ hnew_; clear hg_ hnew_; (first | rw [← Ny338.out] at ho9 | (simp only [Int.reduceToNat] at ho9; rw [← Ny338.out] at ho9)); have n0_ := Aside0.mk (Kd.R_elder' (by (with_reducible repeat (first | apply Kd.R_alloc | apply Kd.R_drewN | apply Kd.R_drew)); exact HO335.out) (Kd.R_base ho9) hb); have n1_ := Aside0.mk (Kd.R_lower (Kd.R_new' ho9 (Kd.R_lt (by (with_reducible repeat (first | apply Kd.R_alloc | apply Kd.R_drewN | apply Kd.R_drew)); exact HO335.out))) (below_size (by repeat (first | (with_reducible first | exact HB.out | apply below_alloc | apply pw_below_drewN | apply below_drew1) | exact HB.out)))); have n2_ := Aside0.mk (below_step (by repeat (first | (with_reducible first | exact HB.out | apply below_alloc | apply pw_below_drewN | apply below_drew1) | exact HB.out)) hb); clear HO335; clear HB; have HO335 := n0_; have HO340 := n1_; have HB := n2_; clear n0_ n1_ n2_; clear hb ho9; obtain ⟨Ao10, co10, eo10⟩ := Kd.R_slice HO340.out; subst eo10) | ((with_reducible refine gate_callee (f := 17) rfl ?_); refine goesL_ (some 12) rfl rfl Try.func17 (by kernel_rfl) rfl #[.slice Ao10 y338.length co10, .int .i64 100000000000] rfl (by (try simp only [List.map_toArray, List.map_cons, List.map_nil]); first | done | rfl | (simp only [List.length_drop, List.length_take]; rfl)) ?_; (with_reducible refine (value_All.calls k _ _ y338 100000000000 t341 t342 _ ?side1 ?side2 A2.out).mono ?_); (case side1 => repeat (first | exact (Kd.R_reads' HO340.out).2.2 | (with_reducible refine Kd.C_alloc ?_ _) | (with_reducible refine Kd.C_drewN ?_ _) | (with_reducible refine Kd.C_drew ?_))); (case side2 => exact (Kd.R_reads' HO340.out).2.1); rintro e w11 ⟨v343, rfl, ho0, hb⟩; refine ⟨_, rfl, ?_⟩; have n0_ := Aside0.mk (Kd.R_elder' (by (with_reducible repeat (first | apply Kd.R_alloc | apply Kd.R_drewN | apply Kd.R_drew)); exact HO335.out) (Kd.R_base ho0) hb); have n1_ := Aside0.mk (Kd.R_elder' (by (with_reducible repeat (first | apply Kd.R_alloc | apply Kd.R_drewN | apply Kd.R_drew)); exact HO340.out) (Kd.R_base ho0) hb); have n2_ := Aside0.mk (Kd.R_lower (Kd.R_new' (Kd.R_new' ho0 (Kd.R_lt (by (with_reducible repeat (first | apply Kd.R_alloc | apply Kd.R_drewN | apply Kd.R_drew)); exact HO335.out))) (Kd.R_lt (by (with_reducible repeat (first | apply Kd.R_alloc | apply Kd.R_drewN | apply Kd.R_drew)); exact HO340.out))) (below_size (by repeat (first | (with_reducible first | exact HB.out | apply below_alloc | apply pw_below_drewN | apply below_drew1) | exact HB.out)))); have n3_ := Aside0.mk (below_step (by repeat (first | (with_reducible first | exact HB.out | apply below_alloc | apply pw_below_drewN | apply below_drew1) | exact HB.out)) hb); clear HO335; clear HO340; clear HB; have HO335 := n0_; have HO340 := n1_; have HO344 := n2_; have HB := n3_; clear n0_ n1_ n2_ n3_; (try clear hb); (try clear hb2); (try clear hk); (try clear hi); (try clear ho0)))
  have H := HC3.out
  clear HC3
  by_cases c12 : t336 = 100
  · rw [if_pos c12] at H
    have c12b0 : (t336 == 100) = true := beq_iff_eq.mpr c12
    have c12b1 : (t336 != 100) = false := bne_eq_false_iff_eq.mpr c12
    clear c12
    by_cases c13 : t337 = 0
    · rw [if_pos c13] at H
      have c13b0 : (t337 == 0) = true := beq_iff_eq.mpr c13
      have c13b1 : (t337 != 0) = false := bne_eq_false_iff_eq.mpr c13
      clear c13
      by_cases c14 : t342 = 0
      · rw [if_pos c14] at H
        have c14b0 : (t342 == 0) = true := beq_iff_eq.mpr c14
        have c14b1 : (t342 != 0) = false := bne_eq_false_iff_eq.mpr c14
        clear c14
        obtain ⟨y345, hy345⟩ : ∃ y_ : List Int, y_ = (([100, 100, 0] : List Int)) := ⟨_, rfl⟩
        replace H : ((lombardref01_Same.f k t341 y345).bind fun t348 => (some t348)) = some r := by first | (rw [hy345]; with_reducible exact H) | (have H2_ := (Option.bind_some _ _).symm.trans H; rw [hy345]; with_reducible exact H2_) | (have H2_ := (Option.bind_some _ _).symm.trans H; with_reducible exact H2_) | with_reducible exact H | (rw [hy345]; exact H) | exact H
        have Ny345 := Aside0.mk hy345
        clear hy345
        replace H := Option.bind_eq_some_iff.mp H
        obtain ⟨t348, A150, H⟩ := H
        replace H : (some t348) = some r := H
        have A15 := Aside0.mk A150
        clear A150
        obtain rfl := Option.some.inj H
        go_wp2_with (first | ((with_reducible refine gate_dst (N := 27) rfl ?_); (try (refine gate_guard (by rfl) ?_; dsimp only)); refine Kd.R_lit (Kd.int .i64) _ 2 ?hg (N := 27) ?hd (xs := ([100, 100, 0] : List Int)) (inner := [.int .i64 100, .int .i64 100, .int .i64 0]) (ok := fun _ => True) (okp := fun _ => True) ?hr ?hp (fun _ hk => hk) trivial (Below.refl _ _) (Nat.le_refl _) (by simp) ?_; (case hd => rfl); (case hg => rfl); (case hr => first | (go_simp; done) | (go_simp; rfl)); (case hp => exact (Reps.one (show Kd.M (Kd.int .i64) _ _ _ 100 [.int .i64 100] from rfl) (Reps.one (show Kd.M (Kd.int .i64) _ _ _ 100 [.int .i64 100] from rfl) (Reps.one (show Kd.M (Kd.int .i64) _ _ _ 0 [.int .i64 0] from rfl) (Reps.none _ _))))); intro v346 w16 ho17 hb hg_ hnew_; clear hg_ hnew_; (first | rw [← Ny345.out] at ho17 | (simp only [Int.reduceToNat] at ho17; rw [← Ny345.out] at ho17)); have n0_ := Aside0.mk (Kd.R_elder' (by (with_reducible repeat (first | apply Kd.R_alloc | apply Kd.R_drewN | apply Kd.R_drew)); exact HO335.out) (Kd.R_base ho17) hb); have n1_ := Aside0.mk (Kd.R_elder' (by (with_reducible repeat (first | apply Kd.R_alloc | apply Kd.R_drewN | apply Kd.R_drew)); exact HO340.out) (Kd.R_base ho17) hb); have n2_ := Aside0.mk (Kd.R_elder' (by (with_reducible repeat (first | apply Kd.R_alloc | apply Kd.R_drewN | apply Kd.R_drew)); exact HO344.out) (Kd.R_base ho17) hb); have n3_ := Aside0.mk (Kd.R_lower (Kd.R_new' (Kd.R_new' (Kd.R_new' ho17 (Kd.R_lt (by (with_reducible repeat (first | apply Kd.R_alloc | apply Kd.R_drewN | apply Kd.R_drew)); exact HO335.out))) (Kd.R_lt (by (with_reducible repeat (first | apply Kd.R_alloc | apply Kd.R_drewN | apply Kd.R_drew)); exact HO340.out))) (Kd.R_lt (by (with_reducible repeat (first | apply Kd.R_alloc | apply Kd.R_drewN | apply Kd.R_drew)); exact HO344.out))) (below_size (by repeat (first | (with_reducible first | exact HB.out | apply below_alloc | apply pw_below_drewN | apply below_drew1) | exact HB.out)))); have n4_ := Aside0.mk (below_step (by repeat (first | (with_reducible first | exact HB.out | apply below_alloc | apply pw_below_drewN | apply below_drew1) | exact HB.out)) hb); clear HO335; clear HO340; clear HO344; clear HB; have HO335 := n0_; have HO340 := n1_; have HO344 := n2_; have HO347 := n3_; have HB := n4_; clear n0_ n1_ n2_ n3_ n4_; clear hb ho17; obtain ⟨Ao18, co18, eo18⟩ := Kd.R_slice HO344.out; subst eo18; obtain ⟨Ao19, co19, eo19⟩ := Kd.R_slice HO347.out; subst eo19) | (go_at_call 37; (with_reducible refine (lombardref01_Same.calls k _ _ t341 _ _ y345 t348 _ ?side1 ?side2 ?side3 ?side4 A15.out).mono ?_); (case side1 => repeat (first | exact (Kd.R_reads' HO344.out).2.2 | (with_reducible refine Kd.C_alloc ?_ _) | (with_reducible refine Kd.C_drewN ?_ _) | (with_reducible refine Kd.C_drew ?_))); (case side2 => exact (Kd.R_reads' HO344.out).2.1); (case side3 => repeat (first | exact (Kd.R_reads' HO347.out).2.2 | (with_reducible refine Kd.C_alloc ?_ _) | (with_reducible refine Kd.C_drewN ?_ _) | (with_reducible refine Kd.C_drew ?_))); (case side4 => exact (Kd.R_reads' HO347.out).2.1); rintro e w' ⟨rfl, ⟨nd, rfl⟩⟩))
        go_ret
        exact ⟨by first | rfl | (simp [errW_none, errW_some] <;> rfl) | (simp [*, errW_none, errW_some] <;> rfl), by repeat (first | (with_reducible first | exact HB.out | apply below_alloc | apply pw_below_drewN | apply below_drew1) | exact HB.out)⟩
      · rw [if_neg c14] at H
        have c14b0 : (t342 == 0) = false := beq_eq_false_iff_ne.mpr c14
        have c14b1 : (t342 != 0) = true := bne_iff_ne.mpr c14
        obtain rfl := Option.some.inj H
        go_wp2
        go_ret
        exact ⟨by first | rfl | (simp [errW_none, errW_some] <;> rfl) | (simp [*, errW_none, errW_some] <;> rfl), by repeat (first | (with_reducible first | exact HB.out | apply below_alloc | apply pw_below_drewN | apply below_drew1) | exact HB.out)⟩
    · rw [if_neg c13] at H
      have c13b0 : (t337 == 0) = false := beq_eq_false_iff_ne.mpr c13
      have c13b1 : (t337 != 0) = true := bne_iff_ne.mpr c13
      obtain rfl := Option.some.inj H
      go_wp2
      go_ret
      exact ⟨by first | rfl | (simp [errW_none, errW_some] <;> rfl) | (simp [*, errW_none, errW_some] <;> rfl), by repeat (first | (with_reducible first | exact HB.out | apply below_alloc | apply pw_below_drewN | apply below_drew1) | exact HB.out)⟩
  · rw [if_neg c12] at H
    have c12b0 : (t336 == 100) = false := beq_eq_false_iff_ne.mpr c12
    have c12b1 : (t336 != 100) = true := bne_iff_ne.mpr c12
    obtain rfl := Option.some.inj H
    go_wp2
    go_ret
    exact ⟨by first | rfl | (simp [errW_none, errW_some] <;> rfl) | (simp [*, errW_none, errW_some] <;> rfl), by repeat (first | (with_reducible first | exact HB.out | apply below_alloc | apply pw_below_drewN | apply below_drew1) | exact HB.out)⟩

end Go.Proofs.Ytalnlphinlfenaa.S
end

section
namespace Go.Proofs.Ytalnlphinlfenaa.S
open Go.RowKit Go.Proofs.YtalnlphinlfenaaW.PrintWords Go.Proofs.YtalnlphinlfenaaW.PrintLast Go.Proofs.YtalnlphinlfenaaW.PrintMore
attribute [local go_sem] max2_int min2_int max_two min_two max_three min_three max_four min_four   -- for this text's walks alone
attribute [local go_sem] Go.Proofs.Ytalnlphinlfenaa.XWalk.cell2
set_option linter.unusedVariables false
set_option linter.unusedSimpArgs false

/-! ### lombardlaw09_ValueAdds: function 6 -/
mutual
def lombardlaw09_ValueAdds.j0 : Nat → List Int → List Int → Int → Bool → Option (Bool)
  | 0, _, _, _, _ => none
  | k + 1, x0, x1, x2, x32 => if x32 = true then (some true) else (lombardlaw09_ValueAdds.l0 k x0 x1 (mn (mx x2 0) 1000000000000) ([] : List Int) ([] : List Int) ([] : List Int) ([] : List Int) (mn (x0.length : Int) (x1.length : Int)) 0)
def lombardlaw09_ValueAdds.l0 : Nat → List Int → List Int → Int → List Int → List Int → List Int → List Int → Int → Int → Option (Bool)
  | 0, _, _, _, _, _, _, _, _, _ => none
  | k + 1, x0, x1, x2, x7, x8, x9, x10, x40, x41 => if x41 < x40 then (if 0 ≤ x41 then (if x41 < (x0.length : Int) then (if x41 < (x1.length : Int) then (if x7.length < 17592186044416 then (if x8.length < 17592186044416 then (if x9.length < 17592186044416 then (if x10.length < 17592186044416 then (lombardlaw09_ValueAdds.l0 k x0 x1 x2 (x7 ++ [mn (mx (rd x0 x41) (-1000000000)) 1000000000]) (x8 ++ [mn (mx (rd x1 x41) (-1000000000)) 1000000000]) (x9 ++ [(mn (mx (rd x0 x41) (-1000000000)) 1000000000) + (mn (mx (rd x1 x41) (-1000000000)) 1000000000)]) (x10 ++ [-(mn (mx (rd x0 x41) (-1000000000)) 1000000000)]) x40 (wrap64 (x41 + 1))) else (none)) else (none)) else (none)) else (none)) else (none)) else (none)) else (none)) else ((value_Of.f k x7 x2).bind fun bt379 => ((value_Of.f k x8 x2).bind fun bt381 => ((value_Of.f k x9 x2).bind fun bt383 => ((value_Of.f k x10 x2).bind fun bt385 => (if bt379.2 = 0 then (if bt381.2 = 0 then (if bt383.2 = 0 then (if bt385.2 = 0 then (if bt385.1 = (wrap64 (-bt379.1)) then (if (wrap64 ((wrap64 (bt383.1 - bt379.1)) - bt381.1)) ≤ (wrap64 (2 * (x7.length : Int))) then (some (decide ((wrap64 ((wrap64 (bt383.1 - bt379.1)) - bt381.1)) ≥ (wrap64 ((-2) * (x7.length : Int)))))) else (some false)) else (some false)) else (some false)) else (some false)) else (some false)) else (some false))))))
end
def lombardlaw09_ValueAdds.f (k : Nat) (l0 : List Int) (l1 : List Int) (a2 : Int) : Option (Bool) := (lombardlaw09_alive.f k).bind fun t364 => (if t364 = true then (if (l0.length : Int) > 60 then (lombardlaw09_ValueAdds.j0 k l0 l1 a2 true) else (lombardlaw09_ValueAdds.j0 k l0 l1 a2 (decide ((l1.length : Int) > 60)))) else (some false))
set_option maxHeartbeats 8000000 in
set_option maxRecDepth 100000 in
theorem lombardlaw09_ValueAdds.calls (k : Nat) (A0 : Option Addr) (c0 : Nat) (l0 : List Int) (A1 : Option Addr) (c1 : Nat) (l1 : List Int) (a2 : Int) (r : Bool) (w : World) (hr0 : Kd.C (Kd.int .i64) w A0 l0.length l0) (hc0 : l0.length ≤ c0) (hr1 : Kd.C (Kd.int .i64) w A1 l1.length l1) (hc1 : l1.length ≤ c1) (h : lombardlaw09_ValueAdds.f k l0 l1 a2 = some r) :
    Calls Try.prog 6 #[.slice A0 l0.length c0, .slice A1 l1.length c1, .int .i64 a2] w fun e w' => e = .returned (.bool r) ∧ Below w.heap.size w w' := by
  have HR0 := Aside0.mk hr0
  have HC0 := Aside0.mk hc0
  clear hr0 hc0
  have HR1 := Aside0.mk hr1
  have HC1 := Aside0.mk hc1
  clear hr1 hc1
  have HB := Aside0.mk (Below.refl w.heap.size w)
  have H : ((lombardlaw09_alive.f k).bind fun t364 => (if t364 = true then (if (l0.length : Int) > 60 then (lombardlaw09_ValueAdds.j0 k l0 l1 a2 true) else (lombardlaw09_ValueAdds.j0 k l0 l1 a2 (decide ((l1.length : Int) > 60)))) else (some false))) = some r := h
  clear h
  replace H := Option.bind_eq_some_iff.mp H
  obtain ⟨t364, A40, H⟩ := H
  replace H : (if t364 = true then (if (l0.length : Int) > 60 then (lombardlaw09_ValueAdds.j0 k l0 l1 a2 true) else (lombardlaw09_ValueAdds.j0 k l0 l1 a2 (decide ((l1.length : Int) > 60)))) else (some false)) = some r := H
  have A4 := Aside0.mk A40
  clear A40
  by_cases c5 : t364 = true
  · subst c5
    have H1 : (if (l0.length : Int) > 60 then (lombardlaw09_ValueAdds.j0 k l0 l1 a2 true) else (lombardlaw09_ValueAdds.j0 k l0 l1 a2 (decide ((l1.length : Int) > 60)))) = some r := by rw [if_pos rfl] at H; exact H
    clear H
    have H := H1
    clear H1
    have HC6 := Aside0.mk H
    clear H
    go_enter Try.func6, Try.ntmps6
    go_upto_region 3 with (first | (go_at_call 16; (with_reducible refine (lombardlaw09_alive.calls k  true _ A4.out).mono ?_); rintro e w7 ⟨rfl, hb⟩; have n0_ := Aside0.mk (below_step (by repeat (first | (with_reducible first | exact HB.out | apply below_alloc | apply pw_below_drewN | apply below_drew1) | exact HB.out)) hb); clear HB; have HB := n0_; clear n0_; (try clear hb); (try clear hb2); (try clear hk); (try clear hi)))
    repeat (go_quiet (first | (go_at_call 16; (with_reducible refine (lombardlaw09_alive.calls k  true _ A4.out).mono ?_); rintro e w7 ⟨rfl, hb⟩; have n0_ := Aside0.mk (below_step (by repeat (first | (with_reducible first | exact HB.out | apply below_alloc | apply pw_below_drewN | apply below_drew1) | exact HB.out)) hb); clear HB; have HB := n0_; clear n0_; (try clear hb); (try clear hb2); (try clear hk); (try clear hi))); go_upto_region 3 with (first | (go_at_call 16; (with_reducible refine (lombardlaw09_alive.calls k  true _ A4.out).mono ?_); rintro e w7 ⟨rfl, hb⟩; have n0_ := Aside0.mk (below_step (by repeat (first | (with_reducible first | exact HB.out | apply below_alloc | apply pw_below_drewN | apply below_drew1) | exact HB.out)) hb); clear HB; have HB := n0_; clear n0_; (try clear hb); (try clear hb2); (try clear hk); (try clear hi))))
    (try simp only [Act.put, List.setIfInBounds_toArray, List.set_cons_zero, List.set_cons_succ])
    go_cut [32] (fun v32 wc => ∃ (kq : Nat) (x32_5 : Bool), v32 = .bool x32_5 ∧ Aside0 (lombardlaw09_ValueAdds.j0 kq l0 l1 a2 x32_5 = some r) ∧ Aside0 (kq ≤ k) ∧ Aside0 (Below w.heap.size w wc))
    case first =>
      have H := HC6.out
      clear HC6
      by_cases c8 : (l0.length : Int) > 60
      · rw [if_pos c8] at H
        have c8b0 : decide (60 < (l0.length : Int)) = true := decide_eq_true c8
        have c8b1 : decide (60 < l0.length) = true := decide_eq_true (by omega)
        clear c8
        (first | rw [c8b0] | (simp only [i64_w, i32_w]; rw [c8b0]) | skip)
        have H' := Aside0.mk H
        clear H
        go_wp2
        repeat (go_quiet (fail); try go_wp2)
        go_meet
        case rel => exact ⟨_, (true), (by first | rfl | (simp; done) | (simp [*]; done)), H', ⟨by first | omega | exact Nat.le_refl _⟩, ⟨by repeat (first | (with_reducible first | exact HB.out | apply below_alloc | apply pw_below_drewN | apply below_drew1) | exact HB.out)⟩⟩
      · rw [if_neg c8] at H
        have c8b0 : decide (60 < (l0.length : Int)) = false := decide_eq_false c8
        have c8b1 : decide (60 < l0.length) = false := decide_eq_false (by omega)
        clear c8
        (first | rw [c8b0] | (simp only [i64_w, i32_w]; rw [c8b0]) | skip)
        have H' := Aside0.mk H
        clear H
        go_wp2
        repeat (go_quiet (fail); try go_wp2)
        go_meet
        case rel => exact ⟨_, (decide ((l1.length : Int) > 60)), (by first | rfl | (simp; done) | (simp [*]; done)), H', ⟨by first | omega | exact Nat.le_refl _⟩, ⟨by repeat (first | (with_reducible first | exact HB.out | apply below_alloc | apply pw_below_drewN | apply below_drew1) | exact HB.out)⟩⟩
    case rest =>
      clear HC6
      try clear c1
      try clear p2
      try clear c5
      try clear c6
      try clear c8
      try clear c8b0
      try clear c8b1
      obtain ⟨kq, x32_5, rfl, HA, HJ5, HB⟩ := hcut
      cases kq with
      | zero => exact absurd HA.out (by simp [lombardlaw09_ValueAdds.j0])
      | succ kj5 =>
        have H := HA.out
        clear HA
        simp only [lombardlaw09_ValueAdds.j0] at H
        by_cases c9 : x32_5 = true
        · subst c9
          have H1 : (some true) = some r := by rw [if_pos rfl] at H; exact H
          clear H
          have H := H1
          clear H1
          obtain rfl := Option.some.inj H
          go_wp2
          repeat (go_quiet (fail); try go_wp2)
          go_ret
          exact ⟨by first | rfl | (simp [errW_none, errW_some] <;> rfl) | (simp [*, errW_none, errW_some] <;> rfl), by repeat (first | (with_reducible first | exact HB.out | apply below_alloc | apply pw_below_drewN | apply below_drew1) | exact HB.out)⟩
        · replace c9 := Bool.eq_false_iff.mpr c9
          subst c9
          have H1 : (lombardlaw09_ValueAdds.l0 kj5 l0 l1 (mn (mx a2 0) 1000000000000) ([] : List Int) ([] : List Int) ([] : List Int) ([] : List Int) (mn (l0.length : Int) (l1.length : Int)) 0) = some r := by rw [if_neg (show ¬ (false = true) by decide)] at H; exact H
          clear H
          have H := H1
          clear H1
          obtain ⟨ji10, hji10⟩ : ∃ j_ : Int, (mx a2 0) = j_ := ⟨_, rfl⟩
          replace H : (lombardlaw09_ValueAdds.l0 kj5 l0 l1 (mn (ji10) 1000000000000) ([] : List Int) ([] : List Int) ([] : List Int) ([] : List Int) (mn (l0.length : Int) (l1.length : Int)) 0) = some r := by first | (rw [hji10] at H; exact H) | (simp only [hji10] at H ⊢; exact H)
          have hji10_ : (if a2 < 0 then 0 else a2) = ji10 := hji10
          obtain ⟨ji11, hji11⟩ : ∃ j_ : Int, (mn (ji10) 1000000000000) = j_ := ⟨_, rfl⟩
          replace H : (lombardlaw09_ValueAdds.l0 kj5 l0 l1 ji11 ([] : List Int) ([] : List Int) ([] : List Int) ([] : List Int) (mn (l0.length : Int) (l1.length : Int)) 0) = some r := by first | (rw [hji11] at H; exact H) | (simp only [hji11] at H ⊢; exact H)
          have hji11_ : (if 1000000000000 < (ji10) then 1000000000000 else (ji10)) = ji11 := hji11
          obtain ⟨ji12, hji12⟩ : ∃ j_ : Int, (mn (l0.length : Int) (l1.length : Int)) = j_ := ⟨_, rfl⟩
          replace H : (lombardlaw09_ValueAdds.l0 kj5 l0 l1 ji11 ([] : List Int) ([] : List Int) ([] : List Int) ([] : List Int) ji12 0) = some r := by first | (rw [hji12] at H; exact H) | (simp only [hji12] at H ⊢; exact H)
          have hji12_ : (if (l1.length : Int) < (l0.length : Int) then (l1.length : Int) else (l0.length : Int)) = ji12 := hji12
          have hji12n_ : (if l1.length < l0.length then (l1.length : Int) else (l0.length : Int)) = ji12 := by rw [← hji12_]; simp only [Int.ofNat_lt]
          have H' := Aside0.mk H
          clear H
          go_wp2
          repeat (go_quiet (fail); try go_wp2)
          go_loopg [7, 8, 9, 10, 41] kj5 (fun kq v7 v8 v9 v10 v41 w' => ∃ (x7_2 : List Int) (x8_2 : List Int) (x9_2 : List Int) (x10_2 : List Int) (x41_2 : Int), v41 = .int .i64 x41_2 ∧ Aside0 (lombardlaw09_ValueAdds.l0 kq l0 l1 ji11 x7_2 x8_2 x9_2 x10_2 ji12 x41_2 = some r) ∧ Aside0 (kq ≤ kj5) ∧ Aside0 (Kd.R (Kd.int .i64) 2 w' w.heap.size (fun k_ => some k_ ≠ (v8 : Value).ownBlock ∧ some k_ ≠ (v9 : Value).ownBlock ∧ some k_ ≠ (v10 : Value).ownBlock) v7 x7_2) ∧ Aside0 (Kd.R (Kd.int .i64) 2 w' w.heap.size (fun k_ => some k_ ≠ (v7 : Value).ownBlock ∧ some k_ ≠ (v9 : Value).ownBlock ∧ some k_ ≠ (v10 : Value).ownBlock) v8 x8_2) ∧ Aside0 (Kd.R (Kd.int .i64) 2 w' w.heap.size (fun k_ => some k_ ≠ (v7 : Value).ownBlock ∧ some k_ ≠ (v8 : Value).ownBlock ∧ some k_ ≠ (v10 : Value).ownBlock) v9 x9_2) ∧ Aside0 (Kd.R (Kd.int .i64) 2 w' w.heap.size (fun k_ => some k_ ≠ (v7 : Value).ownBlock ∧ some k_ ≠ (v8 : Value).ownBlock ∧ some k_ ≠ (v9 : Value).ownBlock) v10 x10_2) ∧ Aside0 (Below w.heap.size w w'))
          case atStart => exact ⟨(([] : List Int)), (([] : List Int)), (([] : List Int)), (([] : List Int)), (0), (by first | rfl | (simp; done) | (simp [*]; done)), H', ⟨Nat.le_refl _⟩, ⟨by first | exact Kd.R_nil _ _ _ _ _ | exact Kd.N_nil _ _ _ _ _ | exact Kd.V_nil _ _ _ _ _ | exact Kd.Q_nil _ _ _ _ _ | exact Kd.S_nil _ _ _ _ _⟩, ⟨by first | exact Kd.R_nil _ _ _ _ _ | exact Kd.N_nil _ _ _ _ _ | exact Kd.V_nil _ _ _ _ _ | exact Kd.Q_nil _ _ _ _ _ | exact Kd.S_nil _ _ _ _ _⟩, ⟨by first | exact Kd.R_nil _ _ _ _ _ | exact Kd.N_nil _ _ _ _ _ | exact Kd.V_nil _ _ _ _ _ | exact Kd.Q_nil _ _ _ _ _ | exact Kd.S_nil _ _ _ _ _⟩, ⟨by first | exact Kd.R_nil _ _ _ _ _ | exact Kd.N_nil _ _ _ _ _ | exact Kd.V_nil _ _ _ _ _ | exact Kd.Q_nil _ _ _ _ _ | exact Kd.S_nil _ _ _ _ _⟩, ⟨by repeat (first | (with_reducible first | exact HB.out | apply below_alloc | apply pw_below_drewN | apply below_drew1) | exact HB.out)⟩⟩
          case round =>
            clear H'
            try clear c1
            try clear p2
            try clear c5
            try clear c6
            try clear c8
            try clear c8b0
            try clear c8b1
            try clear c9
            try clear p2
            obtain ⟨x7_2, x8_2, x9_2, x10_2, x41_2, rfl, HA, HK2, HO_7, HO_8, HO_9, HO_10, HB⟩ := hrel
            cases gk with
            | zero => exact absurd HA.out (by simp [lombardlaw09_ValueAdds.l0])
            | succ k2 =>
              have H := HA.out
              clear HA
              simp only [lombardlaw09_ValueAdds.l0] at H
              by_cases c13 : x41_2 < ji12
              · rw [if_pos c13] at H
                have c13b0 : decide (x41_2 < ji12) = true := decide_eq_true c13
                clear c13
                by_cases c14 : 0 ≤ x41_2
                · rw [if_pos c14] at H
                  have c14b0 : decide (0 ≤ x41_2) = true := decide_eq_true c14
                  clear c14
                  by_cases c15 : x41_2 < (l0.length : Int)
                  · rw [if_pos c15] at H
                    have c15b0 : decide (x41_2 < (l0.length : Int)) = true := decide_eq_true c15
                    clear c15
                    obtain ⟨ji16, hji16⟩ : ∃ j_ : Int, (mx (rd l0 x41_2) (-1000000000)) = j_ := ⟨_, rfl⟩
                    replace H : (if x41_2 < (l1.length : Int) then (if x7_2.length < 17592186044416 then (if x8_2.length < 17592186044416 then (if x9_2.length < 17592186044416 then (if x10_2.length < 17592186044416 then (lombardlaw09_ValueAdds.l0 k2 l0 l1 ji11 (x7_2 ++ [mn (ji16) 1000000000]) (x8_2 ++ [mn (mx (rd l1 x41_2) (-1000000000)) 1000000000]) (x9_2 ++ [(mn (ji16) 1000000000) + (mn (mx (rd l1 x41_2) (-1000000000)) 1000000000)]) (x10_2 ++ [-(mn (ji16) 1000000000)]) ji12 (wrap64 (x41_2 + 1))) else (none)) else (none)) else (none)) else (none)) else (none)) = some r := by first | (rw [hji16] at H; exact H) | (simp only [hji16] at H ⊢; exact H)
                    have hji16_ : (if (rd l0 x41_2) < (-1000000000) then (-1000000000) else (rd l0 x41_2)) = ji16 := hji16
                    obtain ⟨ji17, hji17⟩ : ∃ j_ : Int, (mn (ji16) 1000000000) = j_ := ⟨_, rfl⟩
                    replace H : (if x41_2 < (l1.length : Int) then (if x7_2.length < 17592186044416 then (if x8_2.length < 17592186044416 then (if x9_2.length < 17592186044416 then (if x10_2.length < 17592186044416 then (lombardlaw09_ValueAdds.l0 k2 l0 l1 ji11 (x7_2 ++ [ji17]) (x8_2 ++ [mn (mx (rd l1 x41_2) (-1000000000)) 1000000000]) (x9_2 ++ [(ji17) + (mn (mx (rd l1 x41_2) (-1000000000)) 1000000000)]) (x10_2 ++ [-(ji17)]) ji12 (wrap64 (x41_2 + 1))) else (none)) else (none)) else (none)) else (none)) else (none)) = some r := by first | (rw [hji17] at H; exact H) | (simp only [hji17] at H ⊢; exact H)
                    have hji17_ : (if 1000000000 < (ji16) then 1000000000 else (ji16)) = ji17 := hji17
                    by_cases c18 : x41_2 < (l1.length : Int)
                    · rw [if_pos c18] at H
                      have c18b0 : decide (x41_2 < (l1.length : Int)) = true := decide_eq_true c18
                      clear c18
                      obtain ⟨ji19, hji19⟩ : ∃ j_ : Int, (mx (rd l1 x41_2) (-1000000000)) = j_ := ⟨_, rfl⟩
                      replace H : (if x7_2.length < 17592186044416 then (if x8_2.length < 17592186044416 then (if x9_2.length < 17592186044416 then (if x10_2.length < 17592186044416 then (lombardlaw09_ValueAdds.l0 k2 l0 l1 ji11 (x7_2 ++ [ji17]) (x8_2 ++ [mn (ji19) 1000000000]) (x9_2 ++ [(ji17) + (mn (ji19) 1000000000)]) (x10_2 ++ [-(ji17)]) ji12 (wrap64 (x41_2 + 1))) else (none)) else (none)) else (none)) else (none)) = some r := by first | (rw [hji19] at H; exact H) | (simp only [hji19] at H ⊢; exact H)
                      have hji19_ : (if (rd l1 x41_2) < (-1000000000) then (-1000000000) else (rd l1 x41_2)) = ji19 := hji19
                      obtain ⟨ji20, hji20⟩ : ∃ j_ : Int, (mn (ji19) 1000000000) = j_ := ⟨_, rfl⟩
                      replace H : (if x7_2.length < 17592186044416 then (if x8_2.length < 17592186044416 then (if x9_2.length < 17592186044416 then (if x10_2.length < 17592186044416 then (lombardlaw09_ValueAdds.l0 k2 l0 l1 ji11 (x7_2 ++ [ji17]) (x8_2 ++ [ji20]) (x9_2 ++ [(ji17) + (ji20)]) (x10_2 ++ [-(ji17)]) ji12 (wrap64 (x41_2 + 1))) else (none)) else (none)) else (none)) else (none)) = some r := by first | (rw [hji20] at H; exact H) | (simp only [hji20] at H ⊢; exact H)
                      have hji20_ : (if 1000000000 < (ji19) then 1000000000 else (ji19)) = ji20 := hji20
                      by_cases c21 : x7_2.length < 17592186044416
                      · rw [if_pos c21] at H
                        have LMc21 := Aside0.mk c21
                        clear c21
                        obtain ⟨y367, hy367⟩ : ∃ y_ : List Int, y_ = (x7_2 ++ [ji17]) := ⟨_, rfl⟩
                        replace H : (if x8_2.length < 17592186044416 then (if x9_2.length < 17592186044416 then (if x10_2.length < 17592186044416 then (lombardlaw09_ValueAdds.l0 k2 l0 l1 ji11 y367 (x8_2 ++ [ji20]) (x9_2 ++ [(ji17) + (ji20)]) (x10_2 ++ [-(ji17)]) ji12 (wrap64 (x41_2 + 1))) else (none)) else (none)) else (none)) = some r := by first | (rw [hy367]; with_reducible exact H) | (have H2_ := (Option.bind_some _ _).symm.trans H; rw [hy367]; with_reducible exact H2_) | (have H2_ := (Option.bind_some _ _).symm.trans H; with_reducible exact H2_) | with_reducible exact H | (rw [hy367]; exact H) | exact H
                        have Ny367 := Aside0.mk hy367
                        clear hy367
                        by_cases c22 : x8_2.length < 17592186044416
                        · rw [if_pos c22] at H
                          have LMc22 := Aside0.mk c22
                          clear c22
                          obtain ⟨y370, hy370⟩ : ∃ y_ : List Int, y_ = (x8_2 ++ [ji20]) := ⟨_, rfl⟩
                          replace H : (if x9_2.length < 17592186044416 then (if x10_2.length < 17592186044416 then (lombardlaw09_ValueAdds.l0 k2 l0 l1 ji11 y367 y370 (x9_2 ++ [(ji17) + (ji20)]) (x10_2 ++ [-(ji17)]) ji12 (wrap64 (x41_2 + 1))) else (none)) else (none)) = some r := by first | (rw [hy370]; with_reducible exact H) | (have H2_ := (Option.bind_some _ _).symm.trans H; rw [hy370]; with_reducible exact H2_) | (have H2_ := (Option.bind_some _ _).symm.trans H; with_reducible exact H2_) | with_reducible exact H | (rw [hy370]; exact H) | exact H
                          have Ny370 := Aside0.mk hy370
                          clear hy370
                          by_cases c23 : x9_2.length < 17592186044416
                          · rw [if_pos c23] at H
                            have LMc23 := Aside0.mk c23
                            clear c23
                            obtain ⟨y373, hy373⟩ : ∃ y_ : List Int, y_ = (x9_2 ++ [(ji17) + (ji20)]) := ⟨_, rfl⟩
                            replace H : (if x10_2.length < 17592186044416 then (lombardlaw09_ValueAdds.l0 k2 l0 l1 ji11 y367 y370 y373 (x10_2 ++ [-(ji17)]) ji12 (wrap64 (x41_2 + 1))) else (none)) = some r := by first | (rw [hy373]; with_reducible exact H) | (have H2_ := (Option.bind_some _ _).symm.trans H; rw [hy373]; with_reducible exact H2_) | (have H2_ := (Option.bind_some _ _).symm.trans H; with_reducible exact H2_) | with_reducible exact H | (rw [hy373]; exact H) | exact H
                            have Ny373 := Aside0.mk hy373
                            clear hy373
                            by_cases c24 : x10_2.length < 17592186044416
                            · rw [if_pos c24] at H
                              have LMc24 := Aside0.mk c24
                              clear c24
                              obtain ⟨y376, hy376⟩ : ∃ y_ : List Int, y_ = (x10_2 ++ [-(ji17)]) := ⟨_, rfl⟩
                              replace H : (lombardlaw09_ValueAdds.l0 k2 l0 l1 ji11 y367 y370 y373 y376 ji12 (wrap64 (x41_2 + 1))) = some r := by first | (rw [hy376]; with_reducible exact H) | (have H2_ := (Option.bind_some _ _).symm.trans H; rw [hy376]; with_reducible exact H2_) | (have H2_ := (Option.bind_some _ _).symm.trans H; with_reducible exact H2_) | with_reducible exact H | (rw [hy376]; exact H) | exact H
                              have Ny376 := Aside0.mk hy376
                              clear hy376
                              have H' := Aside0.mk H
                              clear H
                              have p365 : 0 ≤ (x41_2 : Int) := of_decide_eq_true (by first | (with_reducible assumption) | assumption)
                              have q365 : x41_2 < (l0.length : Int) := of_decide_eq_true (by first | (with_reducible assumption) | assumption)
                              obtain ⟨ad365, e365, hx365_0⟩ := Kd.at_int HR0.out x41_2 p365 q365
                              cases e365
                              try replace hx365_0 := (HB.out.cell (World.block_lt_of_cell? w _ hx365_0)).trans hx365_0
                              replace p365 := eq_true p365
                              replace q365 := eq_true q365
                              have p366 : 0 ≤ (x41_2 : Int) := of_decide_eq_true (by first | (with_reducible assumption) | assumption)
                              have q366 : x41_2 < (l1.length : Int) := of_decide_eq_true (by first | (with_reducible assumption) | assumption)
                              obtain ⟨ad366, e366, hx366_0⟩ := Kd.at_int HR1.out x41_2 p366 q366
                              cases e366
                              try replace hx366_0 := (HB.out.cell (World.block_lt_of_cell? w _ hx366_0)).trans hx366_0
                              replace p366 := eq_true p366
                              replace q366 := eq_true q366
                              go_wp2_with (first | ((with_reducible refine gate_builtin (b := .append) (xs := #[.tmp 56, .tmp 58]) rfl ?_); (try (refine gate_guard (by rfl) ?_; dsimp only)); at_builtin; refine Kd.R_append (Kd.int .i64) (w0 := w) w.heap.size rfl (.tmp 56) (.tmp 58) 22 2 (.int .i64 0) 8 rfl Try.underlying22 info2 rfl (by decide) (by omega) u7 x7_2 ji17 [.int .i64 ji17] (fun k_ => some k_ ≠ (u8 : Value).ownBlock ∧ some k_ ≠ (u9 : Value).ownBlock ∧ some k_ ≠ (u10 : Value).ownBlock) (fun _ => False) rfl rfl ?aP (fun _ hk => hk.elim) ?aF ?aO ?aB ?aS ?aL ?_; (case aP => exact rfl); (case aB => exact (by repeat (first | (with_reducible first | exact HB.out | apply below_alloc | apply pw_below_drewN | apply below_drew1) | exact HB.out))); (case aF => exact (fun k_ hk => ⟨Kd.fresh' (Kd.R_lt (by (with_reducible repeat (first | apply Kd.R_alloc | apply Kd.R_drewN | apply Kd.R_drew)); exact HO_8.out)) k_ hk, Kd.fresh' (Kd.R_lt (by (with_reducible repeat (first | apply Kd.R_alloc | apply Kd.R_drewN | apply Kd.R_drew)); exact HO_9.out)) k_ hk, Kd.fresh' (Kd.R_lt (by (with_reducible repeat (first | apply Kd.R_alloc | apply Kd.R_drewN | apply Kd.R_drew)); exact HO_10.out)) k_ hk⟩)); (case aO => exact (by (with_reducible repeat (first | apply Kd.R_alloc | apply Kd.R_drewN | apply Kd.R_drew)); exact HO_7.out)); (case aS => exact (below_size (by repeat (first | (with_reducible first | exact HB.out | apply below_alloc | apply pw_below_drewN | apply below_drew1) | exact HB.out)))); (case aL => have := LMc21.out; omega); intro v368 w25 ho hb hg hat; rw [← Ny367.out] at ho; have n0_ := Aside0.mk (Kd.R_after (ok := (fun k_ => some k_ ≠ (u9 : Value).ownBlock ∧ some k_ ≠ (u10 : Value).ownBlock)) (by (with_reducible repeat (first | apply Kd.R_alloc | apply Kd.R_drewN | apply Kd.R_drew)); exact Kd.R_mono HO_8.out (fun _ hk => ⟨⟨hk.2.1, hk.2.2⟩, hk.1⟩)) hg hat); have n1_ := Aside0.mk (Kd.R_after (ok := (fun k_ => some k_ ≠ (u8 : Value).ownBlock ∧ some k_ ≠ (u10 : Value).ownBlock)) (by (with_reducible repeat (first | apply Kd.R_alloc | apply Kd.R_drewN | apply Kd.R_drew)); exact Kd.R_mono HO_9.out (fun _ hk => ⟨⟨hk.2.1, hk.2.2⟩, hk.1⟩)) hg hat); have n2_ := Aside0.mk (Kd.R_after (ok := (fun k_ => some k_ ≠ (u8 : Value).ownBlock ∧ some k_ ≠ (u9 : Value).ownBlock)) (by (with_reducible repeat (first | apply Kd.R_alloc | apply Kd.R_drewN | apply Kd.R_drew)); exact Kd.R_mono HO_10.out (fun _ hk => ⟨⟨hk.2.1, hk.2.2⟩, hk.1⟩)) hg hat); have n3_ := Aside0.mk (hb); have n4_ := Aside0.mk (ho); clear HO_8; clear HO_9; clear HO_10; clear HB; clear HO_7; have HO_8 := n0_; have HO_9 := n1_; have HO_10 := n2_; have HB := n3_; have HO369 := n4_; clear n0_ n1_ n2_ n3_ n4_; clear ho hb hg hat) | ((with_reducible refine gate_builtin (b := .append) (xs := #[.tmp 60, .tmp 62]) rfl ?_); (try (refine gate_guard (by rfl) ?_; dsimp only)); at_builtin; refine Kd.R_append (Kd.int .i64) (w0 := w) w.heap.size rfl (.tmp 60) (.tmp 62) 22 2 (.int .i64 0) 8 rfl Try.underlying22 info2 rfl (by decide) (by omega) u8 x8_2 ji20 [.int .i64 ji20] (fun k_ => some k_ ≠ (u9 : Value).ownBlock ∧ some k_ ≠ (u10 : Value).ownBlock ∧ some k_ ≠ (v368 : Value).ownBlock) (fun _ => False) rfl rfl ?aP (fun _ hk => hk.elim) ?aF ?aO ?aB ?aS ?aL ?_; (case aP => exact rfl); (case aB => exact (by repeat (first | (with_reducible first | exact HB.out | apply below_alloc | apply pw_below_drewN | apply below_drew1) | exact HB.out))); (case aF => exact (fun k_ hk => ⟨Kd.fresh' (Kd.R_lt (by (with_reducible repeat (first | apply Kd.R_alloc | apply Kd.R_drewN | apply Kd.R_drew)); exact HO_9.out)) k_ hk, Kd.fresh' (Kd.R_lt (by (with_reducible repeat (first | apply Kd.R_alloc | apply Kd.R_drewN | apply Kd.R_drew)); exact HO_10.out)) k_ hk, Kd.fresh' (Kd.R_lt (by (with_reducible repeat (first | apply Kd.R_alloc | apply Kd.R_drewN | apply Kd.R_drew)); exact HO369.out)) k_ hk⟩)); (case aO => exact (by (with_reducible repeat (first | apply Kd.R_alloc | apply Kd.R_drewN | apply Kd.R_drew)); exact Kd.R_mono HO_8.out (fun _ hk => ⟨hk.1.1, ⟨hk.1.2, hk.2⟩⟩))); (case aS => exact (below_size (by repeat (first | (with_reducible first | exact HB.out | apply below_alloc | apply pw_below_drewN | apply below_drew1) | exact HB.out)))); (case aL => have := LMc22.out; omega); intro v371 w26 ho hb hg hat; rw [← Ny370.out] at ho; have n0_ := Aside0.mk (Kd.R_after (ok := (fun k_ => some k_ ≠ (u10 : Value).ownBlock ∧ some k_ ≠ (v368 : Value).ownBlock)) (by (with_reducible repeat (first | apply Kd.R_alloc | apply Kd.R_drewN | apply Kd.R_drew)); exact Kd.R_mono HO_9.out (fun _ hk => ⟨⟨hk.1.2, hk.2⟩, hk.1.1⟩)) hg hat); have n1_ := Aside0.mk (Kd.R_after (ok := (fun k_ => some k_ ≠ (u9 : Value).ownBlock ∧ some k_ ≠ (v368 : Value).ownBlock)) (by (with_reducible repeat (first | apply Kd.R_alloc | apply Kd.R_drewN | apply Kd.R_drew)); exact Kd.R_mono HO_10.out (fun _ hk => ⟨⟨hk.1.2, hk.2⟩, hk.1.1⟩)) hg hat); have n2_ := Aside0.mk (Kd.R_after (ok := (fun k_ => some k_ ≠ (u9 : Value).ownBlock ∧ some k_ ≠ (u10 : Value).ownBlock)) (by (with_reducible repeat (first | apply Kd.R_alloc | apply Kd.R_drewN | apply Kd.R_drew)); exact Kd.R_mono HO369.out (fun _ hk => ⟨⟨hk.2.1, hk.2.2⟩, hk.1⟩)) hg hat); have n3_ := Aside0.mk (hb); have n4_ := Aside0.mk (ho); clear HO_9; clear HO_10; clear HO369; clear HB; clear HO_8; have HO_9 := n0_; have HO_10 := n1_; have HO369 := n2_; have HB := n3_; have HO372 := n4_; clear n0_ n1_ n2_ n3_ n4_; clear ho hb hg hat) | ((with_reducible refine gate_builtin (b := .append) (xs := #[.tmp 64, .tmp 68]) rfl ?_); (try (refine gate_guard (by rfl) ?_; dsimp only)); at_builtin; refine Kd.R_append (Kd.int .i64) (w0 := w) w.heap.size rfl (.tmp 64) (.tmp 68) 22 2 (.int .i64 0) 8 rfl Try.underlying22 info2 rfl (by decide) (by omega) u9 x9_2 ((ji17) + (ji20)) [.int .i64 ((ji17) + (ji20))] (fun k_ => some k_ ≠ (u10 : Value).ownBlock ∧ some k_ ≠ (v368 : Value).ownBlock ∧ some k_ ≠ (v371 : Value).ownBlock) (fun _ => False) rfl rfl ?aP (fun _ hk => hk.elim) ?aF ?aO ?aB ?aS ?aL ?_; (case aP => exact rfl); (case aB => exact (by repeat (first | (with_reducible first | exact HB.out | apply below_alloc | apply pw_below_drewN | apply below_drew1) | exact HB.out))); (case aF => exact (fun k_ hk => ⟨Kd.fresh' (Kd.R_lt (by (with_reducible repeat (first | apply Kd.R_alloc | apply Kd.R_drewN | apply Kd.R_drew)); exact HO_10.out)) k_ hk, Kd.fresh' (Kd.R_lt (by (with_reducible repeat (first | apply Kd.R_alloc | apply Kd.R_drewN | apply Kd.R_drew)); exact HO369.out)) k_ hk, Kd.fresh' (Kd.R_lt (by (with_reducible repeat (first | apply Kd.R_alloc | apply Kd.R_drewN | apply Kd.R_drew)); exact HO372.out)) k_ hk⟩)); (case aO => exact (by (with_reducible repeat (first | apply Kd.R_alloc | apply Kd.R_drewN | apply Kd.R_drew)); exact Kd.R_mono HO_9.out (fun _ hk => ⟨hk.1.1, ⟨hk.1.2, hk.2⟩⟩))); (case aS => exact (below_size (by repeat (first | (with_reducible first | exact HB.out | apply below_alloc | apply pw_below_drewN | apply below_drew1) | exact HB.out)))); (case aL => have := LMc23.out; omega); intro v374 w27 ho hb hg hat; rw [← Ny373.out] at ho; have n0_ := Aside0.mk (Kd.R_after (ok := (fun k_ => some k_ ≠ (v368 : Value).ownBlock ∧ some k_ ≠ (v371 : Value).ownBlock)) (by (with_reducible repeat (first | apply Kd.R_alloc | apply Kd.R_drewN | apply Kd.R_drew)); exact Kd.R_mono HO_10.out (fun _ hk => ⟨⟨hk.1.2, hk.2⟩, hk.1.1⟩)) hg hat); have n1_ := Aside0.mk (Kd.R_after (ok := (fun k_ => some k_ ≠ (u10 : Value).ownBlock ∧ some k_ ≠ (v371 : Value).ownBlock)) (by (with_reducible repeat (first | apply Kd.R_alloc | apply Kd.R_drewN | apply Kd.R_drew)); exact Kd.R_mono HO369.out (fun _ hk => ⟨⟨hk.1.2, hk.2⟩, hk.1.1⟩)) hg hat); have n2_ := Aside0.mk (Kd.R_after (ok := (fun k_ => some k_ ≠ (u10 : Value).ownBlock ∧ some k_ ≠ (v368 : Value).ownBlock)) (by (with_reducible repeat (first | apply Kd.R_alloc | apply Kd.R_drewN | apply Kd.R_drew)); exact Kd.R_mono HO372.out (fun _ hk => ⟨⟨hk.2.1, hk.2.2⟩, hk.1⟩)) hg hat); have n3_ := Aside0.mk (hb); have n4_ := Aside0.mk (ho); clear HO_10; clear HO369; clear HO372; clear HB; clear HO_9; have HO_10 := n0_; have HO369 := n1_; have HO372 := n2_; have HB := n3_; have HO375 := n4_; clear n0_ n1_ n2_ n3_ n4_; clear ho hb hg hat) | ((with_reducible refine gate_builtin (b := .append) (xs := #[.tmp 70, .tmp 73]) rfl ?_); (try (refine gate_guard (by rfl) ?_; dsimp only)); at_builtin; refine Kd.R_append (Kd.int .i64) (w0 := w) w.heap.size rfl (.tmp 70) (.tmp 73) 22 2 (.int .i64 0) 8 rfl Try.underlying22 info2 rfl (by decide) (by omega) u10 x10_2 (-(ji17)) [.int .i64 (-(ji17))] (fun k_ => some k_ ≠ (v368 : Value).ownBlock ∧ some k_ ≠ (v371 : Value).ownBlock ∧ some k_ ≠ (v374 : Value).ownBlock) (fun _ => False) rfl rfl ?aP (fun _ hk => hk.elim) ?aF ?aO ?aB ?aS ?aL ?_; (case aP => exact rfl); (case aB => exact (by repeat (first | (with_reducible first | exact HB.out | apply below_alloc | apply pw_below_drewN | apply below_drew1) | exact HB.out))); (case aF => exact (fun k_ hk => ⟨Kd.fresh' (Kd.R_lt (by (with_reducible repeat (first | apply Kd.R_alloc | apply Kd.R_drewN | apply Kd.R_drew)); exact HO369.out)) k_ hk, Kd.fresh' (Kd.R_lt (by (with_reducible repeat (first | apply Kd.R_alloc | apply Kd.R_drewN | apply Kd.R_drew)); exact HO372.out)) k_ hk, Kd.fresh' (Kd.R_lt (by (with_reducible repeat (first | apply Kd.R_alloc | apply Kd.R_drewN | apply Kd.R_drew)); exact HO375.out)) k_ hk⟩)); (case aO => exact (by (with_reducible repeat (first | apply Kd.R_alloc | apply Kd.R_drewN | apply Kd.R_drew)); exact Kd.R_mono HO_10.out (fun _ hk => ⟨hk.1.1, ⟨hk.1.2, hk.2⟩⟩))); (case aS => exact (below_size (by repeat (first | (with_reducible first | exact HB.out | apply below_alloc | apply pw_below_drewN | apply below_drew1) | exact HB.out)))); (case aL => have := LMc24.out; omega); intro v377 w28 ho hb hg hat; rw [← Ny376.out] at ho; have n0_ := Aside0.mk (Kd.R_after (ok := (fun k_ => some k_ ≠ (v371 : Value).ownBlock ∧ some k_ ≠ (v374 : Value).ownBlock)) (by (with_reducible repeat (first | apply Kd.R_alloc | apply Kd.R_drewN | apply Kd.R_drew)); exact Kd.R_mono HO369.out (fun _ hk => ⟨⟨hk.1.2, hk.2⟩, hk.1.1⟩)) hg hat); have n1_ := Aside0.mk (Kd.R_after (ok := (fun k_ => some k_ ≠ (v368 : Value).ownBlock ∧ some k_ ≠ (v374 : Value).ownBlock)) (by (with_reducible repeat (first | apply Kd.R_alloc | apply Kd.R_drewN | apply Kd.R_drew)); exact Kd.R_mono HO372.out (fun _ hk => ⟨⟨hk.1.2, hk.2⟩, hk.1.1⟩)) hg hat); have n2_ := Aside0.mk (Kd.R_after (ok := (fun k_ => some k_ ≠ (v368 : Value).ownBlock ∧ some k_ ≠ (v371 : Value).ownBlock)) (by (with_reducible repeat (first | apply Kd.R_alloc | apply Kd.R_drewN | apply Kd.R_drew)); exact Kd.R_mono HO375.out (fun _ hk => ⟨⟨hk.2.1, hk.2.2⟩, hk.1⟩)) hg hat); have n3_ := Aside0.mk (hb); have n4_ := Aside0.mk (ho); clear HO369; clear HO372; clear HO375; clear HB; clear HO_10; have HO369 := n0_; have HO372 := n1_; have HO375 := n2_; have HB := n3_; have HO378 := n4_; clear n0_ n1_ n2_ n3_ n4_; clear ho hb hg hat))
                              repeat (go_quiet (first | ((with_reducible refine gate_builtin (b := .append) (xs := #[.tmp 56, .tmp 58]) rfl ?_); (try (refine gate_guard (by rfl) ?_; dsimp only)); at_builtin; refine Kd.R_append (Kd.int .i64) (w0 := w) w.heap.size rfl (.tmp 56) (.tmp 58) 22 2 (.int .i64 0) 8 rfl Try.underlying22 info2 rfl (by decide) (by omega) u7 x7_2 ji17 [.int .i64 ji17] (fun k_ => some k_ ≠ (u8 : Value).ownBlock ∧ some k_ ≠ (u9 : Value).ownBlock ∧ some k_ ≠ (u10 : Value).ownBlock) (fun _ => False) rfl rfl ?aP (fun _ hk => hk.elim) ?aF ?aO ?aB ?aS ?aL ?_; (case aP => exact rfl); (case aB => exact (by repeat (first | (with_reducible first | exact HB.out | apply below_alloc | apply pw_below_drewN | apply below_drew1) | exact HB.out))); (case aF => exact (fun k_ hk => ⟨Kd.fresh' (Kd.R_lt (by (with_reducible repeat (first | apply Kd.R_alloc | apply Kd.R_drewN | apply Kd.R_drew)); exact HO_8.out)) k_ hk, Kd.fresh' (Kd.R_lt (by (with_reducible repeat (first | apply Kd.R_alloc | apply Kd.R_drewN | apply Kd.R_drew)); exact HO_9.out)) k_ hk, Kd.fresh' (Kd.R_lt (by (with_reducible repeat (first | apply Kd.R_alloc | apply Kd.R_drewN | apply Kd.R_drew)); exact HO_10.out)) k_ hk⟩)); (case aO => exact (by (with_reducible repeat (first | apply Kd.R_alloc | apply Kd.R_drewN | apply Kd.R_drew)); exact HO_7.out)); (case aS => exact (below_size (by repeat (first | (with_reducible first | exact HB.out | apply below_alloc | apply pw_below_drewN | apply below_drew1) | exact HB.out)))); (case aL => have := LMc21.out; omega); intro v368 w25 ho hb hg hat; rw [← Ny367.out] at ho; have n0_ := Aside0.mk (Kd.R_after (ok := (fun k_ => some k_ ≠ (u9 : Value).ownBlock ∧ some k_ ≠ (u10 : Value).ownBlock)) (by (with_reducible repeat (first | apply Kd.R_alloc | apply Kd.R_drewN | apply Kd.R_drew)); exact Kd.R_mono HO_8.out (fun _ hk => ⟨⟨hk.2.1, hk.2.2⟩, hk.1⟩)) hg hat); have n1_ := Aside0.mk (Kd.R_after (ok := (fun k_ => some k_ ≠ (u8 : Value).ownBlock ∧ some k_ ≠ (u10 : Value).ownBlock)) (by (with_reducible repeat (first | apply Kd.R_alloc | apply Kd.R_drewN | apply Kd.R_drew)); exact Kd.R_mono HO_9.out (fun _ hk => ⟨⟨hk.2.1, hk.2.2⟩, hk.1⟩)) hg hat); have n2_ := Aside0.mk (Kd.R_after (ok := (fun k_ => some k_ ≠ (u8 : Value).ownBlock ∧ some k_ ≠ (u9 : Value).ownBlock)) (by (with_reducible repeat (first | apply Kd.R_alloc | apply Kd.R_drewN | apply Kd.R_drew)); exact Kd.R_mono HO_10.out (fun _ hk => ⟨⟨hk.2.1, hk.2.2⟩, hk.1⟩)) hg hat); have n3_ := Aside0.mk (hb); have n4_ := Aside0.mk (ho); clear HO_8; clear HO_9; clear HO_10; clear HB; clear HO_7; have HO_8 := n0_; have HO_9 := n1_; have HO_10 := n2_; have HB := n3_; have HO369 := n4_; clear n0_ n1_ n2_ n3_ n4_; clear ho hb hg hat) | ((with_reducible refine gate_builtin (b := .append) (xs := #[.tmp 60, .tmp 62]) rfl ?_); (try (refine gate_guard (by rfl) ?_; dsimp only)); at_builtin; refine Kd.R_append (Kd.int .i64) (w0 := w) w.heap.size rfl (.tmp 60) (.tmp 62) 22 2 (.int .i64 0) 8 rfl Try.underlying22 info2 rfl (by decide) (by omega) u8 x8_2 ji20 [.int .i64 ji20] (fun k_ => some k_ ≠ (u9 : Value).ownBlock ∧ some k_ ≠ (u10 : Value).ownBlock ∧ some k_ ≠ (v368 : Value).ownBlock) (fun _ => False) rfl rfl ?aP (fun _ hk => hk.elim) ?aF ?aO ?aB ?aS ?aL ?_; (case aP => exact rfl); (case aB => exact (by repeat (first | (with_reducible first | exact HB.out | apply below_alloc | apply pw_below_drewN | apply below_drew1) | exact HB.out))); (case aF => exact (fun k_ hk => ⟨Kd.fresh' (Kd.R_lt (by (with_reducible repeat (first | apply Kd.R_alloc | apply Kd.R_drewN | apply Kd.R_drew)); exact HO_9.out)) k_ hk, Kd.fresh' (Kd.R_lt (by (with_reducible repeat (first | apply Kd.R_alloc | apply Kd.R_drewN | apply Kd.R_drew)); exact HO_10.out)) k_ hk, Kd.fresh' (Kd.R_lt (by (with_reducible repeat (first | apply Kd.R_alloc | apply Kd.R_drewN | apply Kd.R_drew)); exact HO369.out)) k_ hk⟩)); (case aO => exact (by (with_reducible repeat (first | apply Kd.R_alloc | apply Kd.R_drewN | apply Kd.R_drew)); exact Kd.R_mono HO_8.out (fun _ hk => ⟨hk.1.1, ⟨hk.1.2, hk.2⟩⟩))); (case aS => exact (below_size (by repeat (first | (with_reducible first | exact HB.out | apply below_alloc | apply pw_below_drewN | apply below_drew1) | exact HB.out)))); (case aL => have := LMc22.out; omega); intro v371 w26 ho hb hg hat; rw [← Ny370.out] at ho; have n0_ := Aside0.mk (Kd.R_after (ok := (fun k_ => some k_ ≠ (u10 : Value).ownBlock ∧ some k_ ≠ (v368 : Value).ownBlock)) (by (with_reducible repeat (first | apply Kd.R_alloc | apply Kd.R_drewN | apply Kd.R_drew)); exact Kd.R_mono HO_9.out (fun _ hk => ⟨⟨hk.1.2, hk.2⟩, hk.1.1⟩)) hg hat); have n1_ := Aside0.mk (Kd.R_after (ok := (fun k_ => some k_ ≠ (u9 : Value).ownBlock ∧ some k_ ≠ (v368 : Value).ownBlock)) (by (with_reducible repeat (first | apply Kd.R_alloc | apply Kd.R_drewN | apply Kd.R_drew)); exact Kd.R_mono HO_10.out (fun _ hk => ⟨⟨hk.1.2, hk.2⟩, hk.1.1⟩)) hg hat); have n2_ := Aside0.mk (Kd.R_after (ok := (fun k_ => some k_ ≠ (u9 : Value).ownBlock ∧ some k_ ≠ (u10 : Value).ownBlock)) (by (with_reducible repeat (first | apply Kd.R_alloc | apply Kd.R_drewN | apply Kd.R_drew)); exact Kd.R_mono HO369.out (fun _ hk => ⟨⟨hk.2.1, hk.2.2⟩, hk.1⟩)) hg hat); have n3_ := Aside0.mk (hb); have n4_ := Aside0.mk (ho); clear HO_9; clear HO_10; clear HO369; clear HB; clear HO_8; have HO_9 := n0_; have HO_10 := n1_; have HO369 := n2_; have HB := n3_; have HO372 := n4_; clear n0_ n1_ n2_ n3_ n4_; clear ho hb hg hat) | ((with_reducible refine gate_builtin (b := .append) (xs := #[.tmp 64, .tmp 68]) rfl ?_); (try (refine gate_guard (by rfl) ?_; dsimp only)); at_builtin; refine Kd.R_append (Kd.int .i64) (w0 := w) w.heap.size rfl (.tmp 64) (.tmp 68) 22 2 (.int .i64 0) 8 rfl Try.underlying22 info2 rfl (by decide) (by omega) u9 x9_2 ((ji17) + (ji20)) [.int .i64 ((ji17) + (ji20))] (fun k_ => some k_ ≠ (u10 : Value).ownBlock ∧ some k_ ≠ (v368 : Value).ownBlock ∧ some k_ ≠ (v371 : Value).ownBlock) (fun _ => False) rfl rfl ?aP (fun _ hk => hk.elim) ?aF ?aO ?aB ?aS ?aL ?_; (case aP => exact rfl); (case aB => exact (by repeat (first | (with_reducible first | exact HB.out | apply below_alloc | apply pw_below_drewN | apply below_drew1) | exact HB.out))); (case aF => exact (fun k_ hk => ⟨Kd.fresh' (Kd.R_lt (by (with_reducible repeat (first | apply Kd.R_alloc | apply Kd.R_drewN | apply Kd.R_drew)); exact HO_10.out)) k_ hk, Kd.fresh' (Kd.R_lt (by (with_reducible repeat (first | apply Kd.R_alloc | apply Kd.R_drewN | apply Kd.R_drew)); exact HO369.out)) k_ hk, Kd.fresh' (Kd.R_lt (by (with_reducible repeat (first | apply Kd.R_alloc | apply Kd.R_drewN | apply Kd.R_drew)); exact HO372.out)) k_ hk⟩)); (case aO => exact (by (with_reducible repeat (first | apply Kd.R_alloc | apply Kd.R_drewN | apply Kd.R_drew)); exact Kd.R_mono HO_9.out (fun _ hk => ⟨hk.1.1, ⟨hk.1.2, hk.2⟩⟩))); (case aS => exact (below_size (by repeat (first | (with_reducible first | exact HB.out | apply below_alloc | apply pw_below_drewN | apply below_drew1) | exact HB.out)))); (case aL => have := LMc23.out; omega); intro v374 w27 ho hb hg hat; rw [← Ny373.out] at ho; have n0_ := Aside0.mk (Kd.R_after (ok := (fun k_ => some k_ ≠ (v368 : Value).ownBlock ∧ some k_ ≠ (v371 : Value).ownBlock)) (by (with_reducible repeat (first | apply Kd.R_alloc | apply Kd.R_drewN | apply Kd.R_drew)); exact Kd.R_mono HO_10.out (fun _ hk => ⟨⟨hk.1.2, hk.2⟩, hk.1.1⟩)) hg hat); have n1_ := Aside0.mk (Kd.R_after (ok := (fun k_ => some k_ ≠ (u10 : Value).ownBlock ∧ some k_ ≠ (v371 : Value).ownBlock)) (by (with_reducible repeat (first | apply Kd.R_alloc | apply Kd.R_drewN | apply Kd.R_drew)); exact Kd.R_mono HO369.out (fun _ hk => ⟨⟨hk.1.2, hk.2⟩, hk.1.1⟩)) hg hat); have n2_ := Aside0.mk (Kd.R_after (ok := (fun k_ => some k_ ≠ (u10 : Value).ownBlock ∧ some k_ ≠ (v368 : Value).ownBlock)) (by (with_reducible repeat (first | apply Kd.R_alloc | apply Kd.R_drewN | apply Kd.R_drew)); exact Kd.R_mono HO372.out (fun _ hk => ⟨⟨hk.2.1, hk.2.2⟩, hk.1⟩)) hg hat); have n3_ := Aside0.mk (hb); have n4_ := Aside0.mk (ho); clear HO_10; clear HO369; clear HO372; clear HB; clear HO_9; have HO_10 := n0_; have HO369 := n1_; have HO372 := n2_; have HB := n3_; have HO375 := n4_; clear n0_ n1_ n2_ n3_ n4_; clear ho hb hg hat) | ((with_reducible refine gate_builtin (b := .append) (xs := #[.tmp 70, .tmp 73]) rfl ?_); (try (refine gate_guard (by rfl) ?_; dsimp only)); at_builtin; refine Kd.R_append (Kd.int .i64) (w0 := w) w.heap.size rfl (.tmp 70) (.tmp 73) 22 2 (.int .i64 0) 8 rfl Try.underlying22 info2 rfl (by decide) (by omega) u10 x10_2 (-(ji17)) [.int .i64 (-(ji17))] (fun k_ => some k_ ≠ (v368 : Value).ownBlock ∧ some k_ ≠ (v371 : Value).ownBlock ∧ some k_ ≠ (v374 : Value).ownBlock) (fun _ => False) rfl rfl ?aP (fun _ hk => hk.elim) ?aF ?aO ?aB ?aS ?aL ?_; (case aP => exact rfl); (case aB => exact (by repeat (first | (with_reducible first | exact HB.out | apply below_alloc | apply pw_below_drewN | apply below_drew1) | exact HB.out))); (case aF => exact (fun k_ hk => ⟨Kd.fresh' (Kd.R_lt (by (with_reducible repeat (first | apply Kd.R_alloc | apply Kd.R_drewN | apply Kd.R_drew)); exact HO369.out)) k_ hk, Kd.fresh' (Kd.R_lt (by (with_reducible repeat (first | apply Kd.R_alloc | apply Kd.R_drewN | apply Kd.R_drew)); exact HO372.out)) k_ hk, Kd.fresh' (Kd.R_lt (by (with_reducible repeat (first | apply Kd.R_alloc | apply Kd.R_drewN | apply Kd.R_drew)); exact HO375.out)) k_ hk⟩)); (case aO => exact (by (with_reducible repeat (first | apply Kd.R_alloc | apply Kd.R_drewN | apply Kd.R_drew)); exact Kd.R_mono HO_10.out (fun _ hk => ⟨hk.1.1, ⟨hk.1.2, hk.2⟩⟩))); (case aS => exact (below_size (by repeat (first | (with_reducible first | exact HB.out | apply below_alloc | apply pw_below_drewN | apply below_drew1) | exact HB.out)))); (case aL => have := LMc24.out; omega); intro v377 w28 ho hb hg hat; rw [← Ny376.out] at ho; have n0_ := Aside0.mk (Kd.R_after (ok := (fun k_ => some k_ ≠ (v371 : Value).ownBlock ∧ some k_ ≠ (v374 : Value).ownBlock)) (by (with_reducible repeat (first | apply Kd.R_alloc | apply Kd.R_drewN | apply Kd.R_drew)); exact Kd.R_mono HO369.out (fun _ hk => ⟨⟨hk.1.2, hk.2⟩, hk.1.1⟩)) hg hat); have n1_ := Aside0.mk (Kd.R_after (ok := (fun k_ => some k_ ≠ (v368 : Value).ownBlock ∧ some k_ ≠ (v374 : Value).ownBlock)) (by (with_reducible repeat (first | apply Kd.R_alloc | apply Kd.R_drewN | apply Kd.R_drew)); exact Kd.R_mono HO372.out (fun _ hk => ⟨⟨hk.1.2, hk.2⟩, hk.1.1⟩)) hg hat); have n2_ := Aside0.mk (Kd.R_after (ok := (fun k_ => some k_ ≠ (v368 : Value).ownBlock ∧ some k_ ≠ (v371 : Value).ownBlock)) (by (with_reducible repeat (first | apply Kd.R_alloc | apply Kd.R_drewN | apply Kd.R_drew)); exact Kd.R_mono HO375.out (fun _ hk => ⟨⟨hk.2.1, hk.2.2⟩, hk.1⟩)) hg hat); have n3_ := Aside0.mk (hb); have n4_ := Aside0.mk (ho); clear HO369; clear HO372; clear HO375; clear HB; clear HO_10; have HO369 := n0_; have HO372 := n1_; have HO375 := n2_; have HB := n3_; have HO378 := n4_; clear n0_ n1_ n2_ n3_ n4_; clear ho hb hg hat)); try go_wp2_with (first | ((with_reducible refine gate_builtin (b := .append) (xs := #[.tmp 56, .tmp 58]) rfl ?_); (try (refine gate_guard (by rfl) ?_; dsimp only)); at_builtin; refine Kd.R_append (Kd.int .i64) (w0 := w) w.heap.size rfl (.tmp 56) (.tmp 58) 22 2 (.int .i64 0) 8 rfl Try.underlying22 info2 rfl (by decide) (by omega) u7 x7_2 ji17 [.int .i64 ji17] (fun k_ => some k_ ≠ (u8 : Value).ownBlock ∧ some k_ ≠ (u9 : Value).ownBlock ∧ some k_ ≠ (u10 : Value).ownBlock) (fun _ => False) rfl rfl ?aP (fun _ hk => hk.elim) ?aF ?aO ?aB ?aS ?aL ?_; (case aP => exact rfl); (case aB => exact (by repeat (first | (with_reducible first | exact HB.out | apply below_alloc | apply pw_below_drewN | apply below_drew1) | exact HB.out))); (case aF => exact (fun k_ hk => ⟨Kd.fresh' (Kd.R_lt (by (with_reducible repeat (first | apply Kd.R_alloc | apply Kd.R_drewN | apply Kd.R_drew)); exact HO_8.out)) k_ hk, Kd.fresh' (Kd.R_lt (by (with_reducible repeat (first | apply Kd.R_alloc | apply Kd.R_drewN | apply Kd.R_drew)); exact HO_9.out)) k_ hk, Kd.fresh' (Kd.R_lt (by (with_reducible repeat (first | apply Kd.R_alloc | apply Kd.R_drewN | apply Kd.R_drew)); exact HO_10.out)) k_ hk⟩)); (case aO => exact (by (with_reducible repeat (first | apply Kd.R_alloc | apply Kd.R_drewN | apply Kd.R_drew)); exact HO_7.out)); (case aS => exact (below_size (by repeat (first | (with_reducible first | exact HB.out | apply below_alloc | apply pw_below_drewN | apply below_drew1) | exact HB.out)))); (case aL => have := LMc21.out; omega); intro v368 w25 ho hb hg hat; rw [← Ny367.out] at ho; have n0_ := Aside0.mk (Kd.R_after (ok := (fun k_ => some k_ ≠ (u9 : Value).ownBlock ∧ some k_ ≠ (u10 : Value).ownBlock)) (by (with_reducible repeat (first | apply Kd.R_alloc | apply Kd.R_drewN | apply Kd.R_drew)); exact Kd.R_mono HO_8.out (fun _ hk => ⟨⟨hk.2.1, hk.2.2⟩, hk.1⟩)) hg hat); have n1_ := Aside0.mk (Kd.R_after (ok := (fun k_ => some k_ ≠ (u8 : Value).ownBlock ∧ some k_ ≠ (u10 : Value).ownBlock)) (by (with_reducible repeat (first | apply Kd.R_alloc | apply Kd.R_drewN | apply Kd.R_drew)); exact Kd.R_mono HO_9.out (fun _ hk => ⟨⟨hk.2.1, hk.2.2⟩, hk.1⟩)) hg hat); have n2_ := Aside0.mk (Kd.R_after (ok := (fun k_ => some k_ ≠ (u8 : Value).ownBlock ∧ some k_ ≠ (u9 : Value).ownBlock)) (by (with_reducible repeat (first | apply Kd.R_alloc | apply Kd.R_drewN | apply Kd.R_drew)); exact Kd.R_mono HO_10.out (fun _ hk => ⟨⟨hk.2.1, hk.2.2⟩, hk.1⟩)) hg hat); have n3_ := Aside0.mk (hb); have n4_ := Aside0.mk (ho); clear HO_8; clear HO_9; clear HO_10; clear HB; clear HO_7; have HO_8 := n0_; have HO_9 := n1_; have HO_10 := n2_; have HB := n3_; have HO369 := n4_; clear n0_ n1_ n2_ n3_ n4_; clear ho hb hg hat) | ((with_reducible refine gate_builtin (b := .append) (xs := #[.tmp 60, .tmp 62]) rfl ?_); (try (refine gate_guard (by rfl) ?_; dsimp only)); at_builtin; refine Kd.R_append (Kd.int .i64) (w0 := w) w.heap.size rfl (.tmp 60) (.tmp 62) 22 2 (.int .i64 0) 8 rfl Try.underlying22 info2 rfl (by decide) (by omega) u8 x8_2 ji20 [.int .i64 ji20] (fun k_ => some k_ ≠ (u9 : Value).ownBlock ∧ some k_ ≠ (u10 : Value).ownBlock ∧ some k_ ≠ (v368 : Value).ownBlock) (fun _ => False) rfl rfl ?aP (fun _ hk => hk.elim) ?aF ?aO ?aB ?aS ?aL ?_; (case aP => exact rfl); (case aB => exact (by repeat (first | (with_reducible first | exact HB.out | apply below_alloc | apply pw_below_drewN | apply below_drew1) | exact HB.out))); (case aF => exact (fun k_ hk => ⟨Kd.fresh' (Kd.R_lt (by (with_reducible repeat (first | apply Kd.R_alloc | apply Kd.R_drewN | apply Kd.R_drew)); exact HO_9.out)) k_ hk, Kd.fresh' (Kd.R_lt (by (with_reducible repeat (first | apply Kd.R_alloc | apply Kd.R_drewN | apply Kd.R_drew)); exact HO_10.out)) k_ hk, Kd.fresh' (Kd.R_lt (by (with_reducible repeat (first | apply Kd.R_alloc | apply Kd.R_drewN | apply Kd.R_drew)); exact HO369.out)) k_ hk⟩)); (case aO => exact (by (with_reducible repeat (first | apply Kd.R_alloc | apply Kd.R_drewN | apply Kd.R_drew)); exact Kd.R_mono HO_8.out (fun _ hk => ⟨hk.1.1, ⟨hk.1.2, hk.2⟩⟩))); (case aS => exact (below_size (by repeat (first | (with_reducible first | exact HB.out | apply below_alloc | apply pw_below_drewN | apply below_drew1) | exact HB.out)))); (case aL => have := LMc22.out; omega); intro v371 w26 ho hb hg hat; rw [← Ny370.out] at ho; have n0_ := Aside0.mk (Kd.R_after (ok := (fun k_ => some k_ ≠ (u10 : Value).ownBlock ∧ some k_ ≠ (v368 : Value).ownBlock)) (by (with_reducible repeat (first | apply Kd.R_alloc | apply Kd.R_drewN | apply Kd.R_drew)); exact Kd.R_mono HO_9.out (fun _ hk => ⟨⟨hk.1.2, hk.2⟩, hk.1.1⟩)) hg hat); have n1_ := Aside0.mk (Kd.R_after (ok := (fun k_ => some k_ ≠ (u9 : Value).ownBlock ∧ some k_ ≠ (v368 : Value).ownBlock)) (by (with_reducible repeat (first | apply Kd.R_alloc | apply Kd.R_drewN | apply Kd.R_drew)); exact Kd.R_mono HO_10.out (fun _ hk => ⟨⟨hk.1.2, hk.2⟩, hk.1.1⟩)) hg hat); have n2_ := Aside0.mk (Kd.R_after (ok := (fun k_ => some k_ ≠ (u9 : Value).ownBlock ∧ some k_ ≠ (u10 : Value).ownBlock)) (by (with_reducible repeat (first | apply Kd.R_alloc | apply Kd.R_drewN | apply Kd.R_drew)); exact Kd.R_mono HO369.out (fun _ hk => ⟨⟨hk.2.1, hk.2.2⟩, hk.1⟩)) hg hat); have n3_ := Aside0.mk (hb); have n4_ := Aside0.mk (ho); clear HO_9; clear HO_10; clear HO369; clear HB; clear HO_8; have HO_9 := n0_; have HO_10 := n1_; have HO369 := n2_; have HB := n3_; have HO372 := n4_; clear n0_ n1_ n2_ n3_ n4_; clear ho hb hg hat) | ((with_reducible refine gate_builtin (b := .append) (xs := #[.tmp 64, .tmp 68]) rfl ?_); (try (refine gate_guard (by rfl) ?_; dsimp only)); at_builtin; refine Kd.R_append (Kd.int .i64) (w0 := w) w.heap.size rfl (.tmp 64) (.tmp 68) 22 2 (.int .i64 0) 8 rfl Try.underlying22 info2 rfl (by decide) (by omega) u9 x9_2 ((ji17) + (ji20)) [.int .i64 ((ji17) + (ji20))] (fun k_ => some k_ ≠ (u10 : Value).ownBlock ∧ some k_ ≠ (v368 : Value).ownBlock ∧ some k_ ≠ (v371 : Value).ownBlock) (fun _ => False) rfl rfl ?aP (fun _ hk => hk.elim) ?aF ?aO ?aB ?aS ?aL ?_; (case aP => exact rfl); (case aB => exact (by repeat (first | (with_reducible first | exact HB.out | apply below_alloc | apply pw_below_drewN | apply below_drew1) | exact HB.out))); (case aF => exact (fun k_ hk => ⟨Kd.fresh' (Kd.R_lt (by (with_reducible repeat (first | apply Kd.R_alloc | apply Kd.R_drewN | apply Kd.R_drew)); exact HO_10.out)) k_ hk, Kd.fresh' (Kd.R_lt (by (with_reducible repeat (first | apply Kd.R_alloc | apply Kd.R_drewN | apply Kd.R_drew)); exact HO369.out)) k_ hk, Kd.fresh' (Kd.R_lt (by (with_reducible repeat (first | apply Kd.R_alloc | apply Kd.R_drewN | apply Kd.R_drew)); exact HO372.out)) k_ hk⟩)); (case aO => exact (by (with_reducible repeat (first | apply Kd.R_alloc | apply Kd.R_drewN | apply Kd.R_drew)); exact Kd.R_mono HO_9.out (fun _ hk => ⟨hk.1.1, ⟨hk.1.2, hk.2⟩⟩))); (case aS => exact (below_size (by repeat (first | (with_reducible first | exact HB.out | apply below_alloc | apply pw_below_drewN | apply below_drew1) | exact HB.out)))); (case aL => have := LMc23.out; omega); intro v374 w27 ho hb hg hat; rw [← Ny373.out] at ho; have n0_ := Aside0.mk (Kd.R_after (ok := (fun k_ => some k_ ≠ (v368 : Value).ownBlock ∧ some k_ ≠ (v371 : Value).ownBlock)) (by (with_reducible repeat (first | apply Kd.R_alloc | apply Kd.R_drewN | apply Kd.R_drew)); exact Kd.R_mono HO_10.out (fun _ hk => ⟨⟨hk.1.2, hk.2⟩, hk.1.1⟩)) hg hat); have n1_ := Aside0.mk (Kd.R_after (ok := (fun k_ => some k_ ≠ (u10 : Value).ownBlock ∧ some k_ ≠ (v371 : Value).ownBlock)) (by (with_reducible repeat (first | apply Kd.R_alloc | apply Kd.R_drewN | apply Kd.R_drew)); exact Kd.R_mono HO369.out (fun _ hk => ⟨⟨hk.1.2, hk.2⟩, hk.1.1⟩)) hg hat); have n2_ := Aside0.mk (Kd.R_after (ok := (fun k_ => some k_ ≠ (u10 : Value).ownBlock ∧ some k_ ≠ (v368 : Value).ownBlock)) (by (with_reducible repeat (first | apply Kd.R_alloc | apply Kd.R_drewN | apply Kd.R_drew)); exact Kd.R_mono HO372.out (fun _ hk => ⟨⟨hk.2.1, hk.2.2⟩, hk.1⟩)) hg hat); have n3_ := Aside0.mk (hb); have n4_ := Aside0.mk (ho); clear HO_10; clear HO369; clear HO372; clear HB; clear HO_9; have HO_10 := n0_; have HO369 := n1_; have HO372 := n2_; have HB := n3_; have HO375 := n4_; clear n0_ n1_ n2_ n3_ n4_; clear ho hb hg hat) | ((with_reducible refine gate_builtin (b := .append) (xs := #[.tmp 70, .tmp 73]) rfl ?_); (try (refine gate_guard (by rfl) ?_; dsimp only)); at_builtin; refine Kd.R_append (Kd.int .i64) (w0 := w) w.heap.size rfl (.tmp 70) (.tmp 73) 22 2 (.int .i64 0) 8 rfl Try.underlying22 info2 rfl (by decide) (by omega) u10 x10_2 (-(ji17)) [.int .i64 (-(ji17))] (fun k_ => some k_ ≠ (v368 : Value).ownBlock ∧ some k_ ≠ (v371 : Value).ownBlock ∧ some k_ ≠ (v374 : Value).ownBlock) (fun _ => False) rfl rfl ?aP (fun _ hk => hk.elim) ?aF ?aO ?aB ?aS ?aL ?_; (case aP => exact rfl); (case aB => exact (by repeat (first | (with_reducible first | exact HB.out | apply below_alloc | apply pw_below_drewN | apply below_drew1) | exact HB.out))); (case aF => exact (fun k_ hk => ⟨Kd.fresh' (Kd.R_lt (by (with_reducible repeat (first | apply Kd.R_alloc | apply Kd.R_drewN | apply Kd.R_drew)); exact HO369.out)) k_ hk, Kd.fresh' (Kd.R_lt (by (with_reducible repeat (first | apply Kd.R_alloc | apply Kd.R_drewN | apply Kd.R_drew)); exact HO372.out)) k_ hk, Kd.fresh' (Kd.R_lt (by (with_reducible repeat (first | apply Kd.R_alloc | apply Kd.R_drewN | apply Kd.R_drew)); exact HO375.out)) k_ hk⟩)); (case aO => exact (by (with_reducible repeat (first | apply Kd.R_alloc | apply Kd.R_drewN | apply Kd.R_drew)); exact Kd.R_mono HO_10.out (fun _ hk => ⟨hk.1.1, ⟨hk.1.2, hk.2⟩⟩))); (case aS => exact (below_size (by repeat (first | (with_reducible first | exact HB.out | apply below_alloc | apply pw_below_drewN | apply below_drew1) | exact HB.out)))); (case aL => have := LMc24.out; omega); intro v377 w28 ho hb hg hat; rw [← Ny376.out] at ho; have n0_ := Aside0.mk (Kd.R_after (ok := (fun k_ => some k_ ≠ (v371 : Value).ownBlock ∧ some k_ ≠ (v374 : Value).ownBlock)) (by (with_reducible repeat (first | apply Kd.R_alloc | apply Kd.R_drewN | apply Kd.R_drew)); exact Kd.R_mono HO369.out (fun _ hk => ⟨⟨hk.1.2, hk.2⟩, hk.1.1⟩)) hg hat); have n1_ := Aside0.mk (Kd.R_after (ok := (fun k_ => some k_ ≠ (v368 : Value).ownBlock ∧ some k_ ≠ (v374 : Value).ownBlock)) (by (with_reducible repeat (first | apply Kd.R_alloc | apply Kd.R_drewN | apply Kd.R_drew)); exact Kd.R_mono HO372.out (fun _ hk => ⟨⟨hk.1.2, hk.2⟩, hk.1.1⟩)) hg hat); have n2_ := Aside0.mk (Kd.R_after (ok := (fun k_ => some k_ ≠ (v368 : Value).ownBlock ∧ some k_ ≠ (v371 : Value).ownBlock)) (by (with_reducible repeat (first | apply Kd.R_alloc | apply Kd.R_drewN | apply Kd.R_drew)); exact Kd.R_mono HO375.out (fun _ hk => ⟨⟨hk.2.1, hk.2.2⟩, hk.1⟩)) hg hat); have n3_ := Aside0.mk (hb); have n4_ := Aside0.mk (ho); clear HO369; clear HO372; clear HO375; clear HB; clear HO_10; have HO369 := n0_; have HO372 := n1_; have HO375 := n2_; have HB := n3_; have HO378 := n4_; clear n0_ n1_ n2_ n3_ n4_; clear ho hb hg hat)))
                              go_roundg k2
                              case measure => have := HJ5.out; have := HK2.out; omega
                              case rel => exact ⟨(y367), (y370), (y373), (y376), (wrap64 (x41_2 + 1)), (by first | rfl | (simp; done) | (simp [*]; done)), H', ⟨by have := HJ5.out; have := HK2.out; omega⟩, ⟨by (with_reducible repeat (first | apply Kd.R_alloc | apply Kd.R_drewN | apply Kd.R_drew)); exact Kd.R_mono HO369.out (fun _ hk => ⟨hk.1.1, ⟨hk.1.2, hk.2⟩⟩)⟩, ⟨by (with_reducible repeat (first | apply Kd.R_alloc | apply Kd.R_drewN | apply Kd.R_drew)); exact Kd.R_mono HO372.out (fun _ hk => ⟨hk.1.1, ⟨hk.1.2, hk.2⟩⟩)⟩, ⟨by (with_reducible repeat (first | apply Kd.R_alloc | apply Kd.R_drewN | apply Kd.R_drew)); exact Kd.R_mono HO375.out (fun _ hk => ⟨hk.1.1, ⟨hk.1.2, hk.2⟩⟩)⟩, ⟨by (with_reducible repeat (first | apply Kd.R_alloc | apply Kd.R_drewN | apply Kd.R_drew)); exact HO378.out⟩, ⟨by repeat (first | (with_reducible first | exact HB.out | apply below_alloc | apply pw_below_drewN | apply below_drew1) | exact HB.out)⟩⟩
                            · rw [if_neg c24] at H
                              exact absurd H (by simp)
                          · rw [if_neg c23] at H
                            exact absurd H (by simp)
                        · rw [if_neg c22] at H
                          exact absurd H (by simp)
                      · rw [if_neg c21] at H
                        exact absurd H (by simp)
                    · rw [if_neg c18] at H
                      exact absurd H (by simp)
                  · rw [if_neg c15] at H
                    exact absurd H (by simp)
                · rw [if_neg c14] at H
                  exact absurd H (by simp)
              · rw [if_neg c13] at H
                have c13b0 : decide (x41_2 < ji12) = false := decide_eq_false c13
                clear c13
                replace H := Option.bind_eq_some_iff.mp H
                obtain ⟨⟨t379, t380⟩, A290, H⟩ := H
                replace H : ((value_Of.f k2 x8_2 ji11).bind fun bt381 => ((value_Of.f k2 x9_2 ji11).bind fun bt383 => ((value_Of.f k2 x10_2 ji11).bind fun bt385 => (if t380 = 0 then (if bt381.2 = 0 then (if bt383.2 = 0 then (if bt385.2 = 0 then (if bt385.1 = (wrap64 (-t379)) then (if (wrap64 ((wrap64 (bt383.1 - t379)) - bt381.1)) ≤ (wrap64 (2 * (x7_2.length : Int))) then (some (decide ((wrap64 ((wrap64 (bt383.1 - t379)) - bt381.1)) ≥ (wrap64 ((-2) * (x7_2.length : Int)))))) else (some false)) else (some false)) else (some false)) else (some false)) else (some false)) else (some false))))) = some r := H
                have A29 := Aside0.mk A290
                clear A290
                replace H := Option.bind_eq_some_iff.mp H
                obtain ⟨⟨t381, t382⟩, A300, H⟩ := H
                replace H : ((value_Of.f k2 x9_2 ji11).bind fun bt383 => ((value_Of.f k2 x10_2 ji11).bind fun bt385 => (if t380 = 0 then (if t382 = 0 then (if bt383.2 = 0 then (if bt385.2 = 0 then (if bt385.1 = (wrap64 (-t379)) then (if (wrap64 ((wrap64 (bt383.1 - t379)) - t381)) ≤ (wrap64 (2 * (x7_2.length : Int))) then (some (decide ((wrap64 ((wrap64 (bt383.1 - t379)) - t381)) ≥ (wrap64 ((-2) * (x7_2.length : Int)))))) else (some false)) else (some false)) else (some false)) else (some false)) else (some false)) else (some false)))) = some r := H
                have A30 := Aside0.mk A300
                clear A300
                replace H := Option.bind_eq_some_iff.mp H
                obtain ⟨⟨t383, t384⟩, A310, H⟩ := H
                replace H : ((value_Of.f k2 x10_2 ji11).bind fun bt385 => (if t380 = 0 then (if t382 = 0 then (if t384 = 0 then (if bt385.2 = 0 then (if bt385.1 = (wrap64 (-t379)) then (if (wrap64 ((wrap64 (t383 - t379)) - t381)) ≤ (wrap64 (2 * (x7_2.length : Int))) then (some (decide ((wrap64 ((wrap64 (t383 - t379)) - t381)) ≥ (wrap64 ((-2) * (x7_2.length : Int)))))) else (some false)) else (some false)) else (some false)) else (some false)) else (some false)) else (some false))) = some r := H
                have A31 := Aside0.mk A310
                clear A310
                replace H := Option.bind_eq_some_iff.mp H
                obtain ⟨⟨t385, t386⟩, A320, H⟩ := H
                replace H : (if t380 = 0 then (if t382 = 0 then (if t384 = 0 then (if t386 = 0 then (if t385 = (wrap64 (-t379)) then (if (wrap64 ((wrap64 (t383 - t379)) - t381)) ≤ (wrap64 (2 * (x7_2.length : Int))) then (some (decide ((wrap64 ((wrap64 (t383 - t379)) - t381)) ≥ (wrap64 ((-2) * (x7_2.length : Int)))))) else (some false)) else (some false)) else (some false)) else (some false)) else (some false)) else (some false)) = some r := H
                have A32 := Aside0.mk A320
                clear A320
                have HC33 := Aside0.mk H
                clear H
                obtain ⟨Ao34, co34, eo34⟩ := Kd.R_slice HO_7.out
                subst eo34
                go_upto_region 17 with (first | (go_at_call 18; (with_reducible refine (value_Of.calls k2 _ _ x7_2 ji11 t379 t380 _ ?side1 ?side2 A29.out).mono ?_); (case side1 => repeat (first | exact (Kd.R_reads' HO_7.out).2.2 | (with_reducible refine Kd.C_alloc ?_ _) | (with_reducible refine Kd.C_drewN ?_ _) | (with_reducible refine Kd.C_drew ?_))); (case side2 => exact (Kd.R_reads' HO_7.out).2.1); rintro e w35 ⟨rfl, hb⟩; have n0_ := Aside0.mk (Kd.R_below (by (with_reducible repeat (first | apply Kd.R_alloc | apply Kd.R_drewN | apply Kd.R_drew)); exact HO_7.out) hb); have n1_ := Aside0.mk (Kd.R_below (by (with_reducible repeat (first | apply Kd.R_alloc | apply Kd.R_drewN | apply Kd.R_drew)); exact HO_8.out) hb); have n2_ := Aside0.mk (Kd.R_below (by (with_reducible repeat (first | apply Kd.R_alloc | apply Kd.R_drewN | apply Kd.R_drew)); exact HO_9.out) hb); have n3_ := Aside0.mk (Kd.R_below (by (with_reducible repeat (first | apply Kd.R_alloc | apply Kd.R_drewN | apply Kd.R_drew)); exact HO_10.out) hb); have n4_ := Aside0.mk (below_step (by repeat (first | (with_reducible first | exact HB.out | apply below_alloc | apply pw_below_drewN | apply below_drew1) | exact HB.out)) hb); clear HO_7; clear HO_8; clear HO_9; clear HO_10; clear HB; have HO_7 := n0_; have HO_8 := n1_; have HO_9 := n2_; have HO_10 := n3_; have HB := n4_; clear n0_ n1_ n2_ n3_ n4_; (try clear hb); (try clear hb2); (try clear hk); (try clear hi); obtain ⟨Ao36, co36, eo36⟩ := Kd.R_slice HO_8.out; subst eo36) | (go_at_call 18; (with_reducible refine (value_Of.calls k2 _ _ x8_2 ji11 t381 t382 _ ?side1 ?side2 A30.out).mono ?_); (case side1 => repeat (first | exact (Kd.R_reads' HO_8.out).2.2 | (with_reducible refine Kd.C_alloc ?_ _) | (with_reducible refine Kd.C_drewN ?_ _) | (with_reducible refine Kd.C_drew ?_))); (case side2 => exact (Kd.R_reads' HO_8.out).2.1); rintro e w37 ⟨rfl, hb⟩; have n0_ := Aside0.mk (Kd.R_below (by (with_reducible repeat (first | apply Kd.R_alloc | apply Kd.R_drewN | apply Kd.R_drew)); exact HO_7.out) hb); have n1_ := Aside0.mk (Kd.R_below (by (with_reducible repeat (first | apply Kd.R_alloc | apply Kd.R_drewN | apply Kd.R_drew)); exact HO_8.out) hb); have n2_ := Aside0.mk (Kd.R_below (by (with_reducible repeat (first | apply Kd.R_alloc | apply Kd.R_drewN | apply Kd.R_drew)); exact HO_9.out) hb); have n3_ := Aside0.mk (Kd.R_below (by (with_reducible repeat (first | apply Kd.R_alloc | apply Kd.R_drewN | apply Kd.R_drew)); exact HO_10.out) hb); have n4_ := Aside0.mk (below_step (by repeat (first | (with_reducible first | exact HB.out | apply below_alloc | apply pw_below_drewN | apply below_drew1) | exact HB.out)) hb); clear HO_7; clear HO_8; clear HO_9; clear HO_10; clear HB; have HO_7 := n0_; have HO_8 := n1_; have HO_9 := n2_; have HO_10 := n3_; have HB := n4_; clear n0_ n1_ n2_ n3_ n4_; (try clear hb); (try clear hb2); (try clear hk); (try clear hi); obtain ⟨Ao38, co38, eo38⟩ := Kd.R_slice HO_9.out; subst eo38) | (go_at_call 18; (with_reducible refine (value_Of.calls k2 _ _ x9_2 ji11 t383 t384 _ ?side1 ?side2 A31.out).mono ?_); (case side1 => repeat (first | exact (Kd.R_reads' HO_9.out).2.2 | (with_reducible refine Kd.C_alloc ?_ _) | (with_reducible refine Kd.C_drewN ?_ _) | (with_reducible refine Kd.C_drew ?_))); (case side2 => exact (Kd.R_reads' HO_9.out).2.1); rintro e w39 ⟨rfl, hb⟩; have n0_ := Aside0.mk (Kd.R_below (by (with_reducible repeat (first | apply Kd.R_alloc | apply Kd.R_drewN | apply Kd.R_drew)); exact HO_7.out) hb); have n1_ := Aside0.mk (Kd.R_below (by (with_reducible repeat (first | apply Kd.R_alloc | apply Kd.R_drewN | apply Kd.R_drew)); exact HO_8.out) hb); have n2_ := Aside0.mk (Kd.R_below (by (with_reducible repeat (first | apply Kd.R_alloc | apply Kd.R_drewN | apply Kd.R_drew)); exact HO_9.out) hb); have n3_ := Aside0.mk (Kd.R_below (by (with_reducible repeat (first | apply Kd.R_alloc | apply Kd.R_drewN | apply Kd.R_drew)); exact HO_10.out) hb); have n4_ := Aside0.mk (below_step (by repeat (first | (with_reducible first | exact HB.out | apply below_alloc | apply pw_below_drewN | apply below_drew1) | exact HB.out)) hb); clear HO_7; clear HO_8; clear HO_9; clear HO_10; clear HB; have HO_7 := n0_; have HO_8 := n1_; have HO_9 := n2_; have HO_10 := n3_; have HB := n4_; clear n0_ n1_ n2_ n3_ n4_; (try clear hb); (try clear hb2); (try clear hk); (try clear hi); obtain ⟨Ao40, co40, eo40⟩ := Kd.R_slice HO_10.out; subst eo40) | (go_at_call 18; (with_reducible refine (value_Of.calls k2 _ _ x10_2 ji11 t385 t386 _ ?side1 ?side2 A32.out).mono ?_); (case side1 => repeat (first | exact (Kd.R_reads' HO_10.out).2.2 | (with_reducible refine Kd.C_alloc ?_ _) | (with_reducible refine Kd.C_drewN ?_ _) | (with_reducible refine Kd.C_drew ?_))); (case side2 => exact (Kd.R_reads' HO_10.out).2.1); rintro e w41 ⟨rfl, hb⟩; have n0_ := Aside0.mk (Kd.R_below (by (with_reducible repeat (first | apply Kd.R_alloc | apply Kd.R_drewN | apply Kd.R_drew)); exact HO_7.out) hb); have n1_ := Aside0.mk (Kd.R_below (by (with_reducible repeat (first | apply Kd.R_alloc | apply Kd.R_drewN | apply Kd.R_drew)); exact HO_8.out) hb); have n2_ := Aside0.mk (Kd.R_below (by (with_reducible repeat (first | apply Kd.R_alloc | apply Kd.R_drewN | apply Kd.R_drew)); exact HO_9.out) hb); have n3_ := Aside0.mk (Kd.R_below (by (with_reducible repeat (first | apply Kd.R_alloc | apply Kd.R_drewN | apply Kd.R_drew)); exact HO_10.out) hb); have n4_ := Aside0.mk (below_step (by repeat (first | (with_reducible first | exact HB.out | apply below_alloc | apply pw_below_drewN | apply below_drew1) | exact HB.out)) hb); clear HO_7; clear HO_8; clear HO_9; clear HO_10; clear HB; have HO_7 := n0_; have HO_8 := n1_; have HO_9 := n2_; have HO_10 := n3_; have HB := n4_; clear n0_ n1_ n2_ n3_ n4_; (try clear hb); (try clear hb2); (try clear hk); (try clear hi)))
                repeat (go_quiet (first | (go_at_call 18; (with_reducible refine (value_Of.calls k2 _ _ x7_2 ji11 t379 t380 _ ?side1 ?side2 A29.out).mono ?_); (case side1 => repeat (first | exact (Kd.R_reads' HO_7.out).2.2 | (with_reducible refine Kd.C_alloc ?_ _) | (with_reducible refine Kd.C_drewN ?_ _) | (with_reducible refine Kd.C_drew ?_))); (case side2 => exact (Kd.R_reads' HO_7.out).2.1); rintro e w35 ⟨rfl, hb⟩; have n0_ := Aside0.mk (Kd.R_below (by (with_reducible repeat (first | apply Kd.R_alloc | apply Kd.R_drewN | apply Kd.R_drew)); exact HO_7.out) hb); have n1_ := Aside0.mk (Kd.R_below (by (with_reducible repeat (first | apply Kd.R_alloc | apply Kd.R_drewN | apply Kd.R_drew)); exact HO_8.out) hb); have n2_ := Aside0.mk (Kd.R_below (by (with_reducible repeat (first | apply Kd.R_alloc | apply Kd.R_drewN | apply Kd.R_drew)); exact HO_9.out) hb); have n3_ := Aside0.mk (Kd.R_below (by (with_reducible repeat (first | apply Kd.R_alloc | apply Kd.R_drewN | apply Kd.R_drew)); exact HO_10.out) hb); have n4_ := Aside0.mk (below_step (by repeat (first | (with_reducible first | exact HB.out | apply below_alloc | apply pw_below_drewN | apply below_drew1) | exact HB.out)) hb); clear HO_7; clear HO_8; clear HO_9; clear HO_10; clear HB; have HO_7 := n0_; have HO_8 := n1_; have HO_9 := n2_; have HO_10 := n3_; have HB := n4_; clear n0_ n1_ n2_ n3_ n4_; (try clear hb); (try clear hb2); (try clear hk); (try clear hi); obtain ⟨Ao36, co36, eo36⟩ := Kd.R_slice HO_8.out; subst eo36) | (go_at_call 18; (with_reducible refine (value_Of.calls k2 _ _ x8_2 ji11 t381 t382 _ ?side1 ?side2 A30.out).mono ?_); (case side1 => repeat (first | exact (Kd.R_reads' HO_8.out).2.2 | (with_reducible refine Kd.C_alloc ?_ _) | (with_reducible refine Kd.C_drewN ?_ _) | (with_reducible refine Kd.C_drew ?_))); (case side2 => exact (Kd.R_reads' HO_8.out).2.1); rintro e w37 ⟨rfl, hb⟩; have n0_ := Aside0.mk (Kd.R_below (by (with_reducible repeat (first | apply Kd.R_alloc | apply Kd.R_drewN | apply Kd.R_drew)); exact HO_7.out) hb); have n1_ := Aside0.mk (Kd.R_below (by (with_reducible repeat (first | apply Kd.R_alloc | apply Kd.R_drewN | apply Kd.R_drew)); exact HO_8.out) hb); have n2_ := Aside0.mk (Kd.R_below (by (with_reducible repeat (first | apply Kd.R_alloc | apply Kd.R_drewN | apply Kd.R_drew)); exact HO_9.out) hb); have n3_ := Aside0.mk (Kd.R_below (by (with_reducible repeat (first | apply Kd.R_alloc | apply Kd.R_drewN | apply Kd.R_drew)); exact HO_10.out) hb); have n4_ := Aside0.mk (below_step (by repeat (first | (with_reducible first | exact HB.out | apply below_alloc | apply pw_below_drewN | apply below_drew1) | exact HB.out)) hb); clear HO_7; clear HO_8; clear HO_9; clear HO_10; clear HB; have HO_7 := n0_; have HO_8 := n1_; have HO_9 := n2_; have HO_10 := n3_; have HB := n4_; clear n0_ n1_ n2_ n3_ n4_; (try clear hb); (try clear hb2); (try clear hk); (try clear hi); obtain ⟨Ao38, co38, eo38⟩ := Kd.R_slice HO_9.out; subst eo38) | (go_at_call 18; (with_reducible refine (value_Of.calls k2 _ _ x9_2 ji11 t383 t384 _ ?side1 ?side2 A31.out).mono ?_); (case side1 => repeat (first | exact (Kd.R_reads' HO_9.out).2.2 | (with_reducible refine Kd.C_alloc ?_ _) | (with_reducible refine Kd.C_drewN ?_ _) | (with_reducible refine Kd.C_drew ?_))); (case side2 => exact (Kd.R_reads' HO_9.out).2.1); rintro e w39 ⟨rfl, hb⟩; have n0_ := Aside0.mk (Kd.R_below (by (with_reducible repeat (first | apply Kd.R_alloc | apply Kd.R_drewN | apply Kd.R_drew)); exact HO_7.out) hb); have n1_ := Aside0.mk (Kd.R_below (by (with_reducible repeat (first | apply Kd.R_alloc | apply Kd.R_drewN | apply Kd.R_drew)); exact HO_8.out) hb); have n2_ := Aside0.mk (Kd.R_below (by (with_reducible repeat (first | apply Kd.R_alloc | apply Kd.R_drewN | apply Kd.R_drew)); exact HO_9.out) hb); have n3_ := Aside0.mk (Kd.R_below (by (with_reducible repeat (first | apply Kd.R_alloc | apply Kd.R_drewN | apply Kd.R_drew)); exact HO_10.out) hb); have n4_ := Aside0.mk (below_step (by repeat (first | (with_reducible first | exact HB.out | apply below_alloc | apply pw_below_drewN | apply below_drew1) | exact HB.out)) hb); clear HO_7; clear HO_8; clear HO_9; clear HO_10; clear HB; have HO_7 := n0_; have HO_8 := n1_; have HO_9 := n2_; have HO_10 := n3_; have HB := n4_; clear n0_ n1_ n2_ n3_ n4_; (try clear hb); (try clear hb2); (try clear hk); (try clear hi); obtain ⟨Ao40, co40, eo40⟩ := Kd.R_slice HO_10.out; subst eo40) | (go_at_call 18; (with_reducible refine (value_Of.calls k2 _ _ x10_2 ji11 t385 t386 _ ?side1 ?side2 A32.out).mono ?_); (case side1 => repeat (first | exact (Kd.R_reads' HO_10.out).2.2 | (with_reducible refine Kd.C_alloc ?_ _) | (with_reducible refine Kd.C_drewN ?_ _) | (with_reducible refine Kd.C_drew ?_))); (case side2 => exact (Kd.R_reads' HO_10.out).2.1); rintro e w41 ⟨rfl, hb⟩; have n0_ := Aside0.mk (Kd.R_below (by (with_reducible repeat (first | apply Kd.R_alloc | apply Kd.R_drewN | apply Kd.R_drew)); exact HO_7.out) hb); have n1_ := Aside0.mk (Kd.R_below (by (with_reducible repeat (first | apply Kd.R_alloc | apply Kd.R_drewN | apply Kd.R_drew)); exact HO_8.out) hb); have n2_ := Aside0.mk (Kd.R_below (by (with_reducible repeat (first | apply Kd.R_alloc | apply Kd.R_drewN | apply Kd.R_drew)); exact HO_9.out) hb); have n3_ := Aside0.mk (Kd.R_below (by (with_reducible repeat (first | apply Kd.R_alloc | apply Kd.R_drewN | apply Kd.R_drew)); exact HO_10.out) hb); have n4_ := Aside0.mk (below_step (by repeat (first | (with_reducible first | exact HB.out | apply below_alloc | apply pw_below_drewN | apply below_drew1) | exact HB.out)) hb); clear HO_7; clear HO_8; clear HO_9; clear HO_10; clear HB; have HO_7 := n0_; have HO_8 := n1_; have HO_9 := n2_; have HO_10 := n3_; have HB := n4_; clear n0_ n1_ n2_ n3_ n4_; (try clear hb); (try clear hb2); (try clear hk); (try clear hi))); go_upto_region 17 with (first | (go_at_call 18; (with_reducible refine (value_Of.calls k2 _ _ x7_2 ji11 t379 t380 _ ?side1 ?side2 A29.out).mono ?_); (case side1 => repeat (first | exact (Kd.R_reads' HO_7.out).2.2 | (with_reducible refine Kd.C_alloc ?_ _) | (with_reducible refine Kd.C_drewN ?_ _) | (with_reducible refine Kd.C_drew ?_))); (case side2 => exact (Kd.R_reads' HO_7.out).2.1); rintro e w35 ⟨rfl, hb⟩; have n0_ := Aside0.mk (Kd.R_below (by (with_reducible repeat (first | apply Kd.R_alloc | apply Kd.R_drewN | apply Kd.R_drew)); exact HO_7.out) hb); have n1_ := Aside0.mk (Kd.R_below (by (with_reducible repeat (first | apply Kd.R_alloc | apply Kd.R_drewN | apply Kd.R_drew)); exact HO_8.out) hb); have n2_ := Aside0.mk (Kd.R_below (by (with_reducible repeat (first | apply Kd.R_alloc | apply Kd.R_drewN | apply Kd.R_drew)); exact HO_9.out) hb); have n3_ := Aside0.mk (Kd.R_below (by (with_reducible repeat (first | apply Kd.R_alloc | apply Kd.R_drewN | apply Kd.R_drew)); exact HO_10.out) hb); have n4_ := Aside0.mk (below_step (by repeat (first | (with_reducible first | exact HB.out | apply below_alloc | apply pw_below_drewN | apply below_drew1) | exact HB.out)) hb); clear HO_7; clear HO_8; clear HO_9; clear HO_10; clear HB; have HO_7 := n0_; have HO_8 := n1_; have HO_9 := n2_; have HO_10 := n3_; have HB := n4_; clear n0_ n1_ n2_ n3_ n4_; (try clear hb); (try clear hb2); (try clear hk); (try clear hi); obtain ⟨Ao36, co36, eo36⟩ := Kd.R_slice HO_8.out; subst eo36) | (go_at_call 18; (with_reducible refine (value_Of.calls k2 _ _ x8_2 ji11 t381 t382 _ ?side1 ?side2 A30.out).mono ?_); (case side1 => repeat (first | exact (Kd.R_reads' HO_8.out).2.2 | (with_reducible refine Kd.C_alloc ?_ _) | (with_reducible refine Kd.C_drewN ?_ _) | (with_reducible refine Kd.C_drew ?_))); (case side2 => exact (Kd.R_reads' HO_8.out).2.1); rintro e w37 ⟨rfl, hb⟩; have n0_ := Aside0.mk (Kd.R_below (by (with_reducible repeat (first | apply Kd.R_alloc | apply Kd.R_drewN | apply Kd.R_drew)); exact HO_7.out) hb); have n1_ := Aside0.mk (Kd.R_below (by (with_reducible repeat (first | apply Kd.R_alloc | apply Kd.R_drewN | apply Kd.R_drew)); exact HO_8.out) hb); have n2_ := Aside0.mk (Kd.R_below (by (with_reducible repeat (first | apply Kd.R_alloc | apply Kd.R_drewN | apply Kd.R_drew)); exact HO_9.out) hb); have n3_ := Aside0.mk (Kd.R_below (by (with_reducible repeat (first | apply Kd.R_alloc | apply Kd.R_drewN | apply Kd.R_drew)); exact HO_10.out) hb); have n4_ := Aside0.mk (below_step (by repeat (first | (with_reducible first | exact HB.out | apply below_alloc | apply pw_below_drewN | apply below_drew1) | exact HB.out)) hb); clear HO_7; clear HO_8; clear HO_9; clear HO_10; clear HB; have HO_7 := n0_; have HO_8 := n1_; have HO_9 := n2_; have HO_10 := n3_; have HB := n4_; clear n0_ n1_ n2_ n3_ n4_; (try clear hb); (try clear hb2); (try clear hk); (try clear hi); obtain ⟨Ao38, co38, eo38⟩ := Kd.R_slice HO_9.out; subst eo38) | (go_at_call 18; (with_reducible refine (value_Of.calls k2 _ _ x9_2 ji11 t383 t384 _ ?side1 ?side2 A31.out).mono ?_); (case side1 => repeat (first | exact (Kd.R_reads' HO_9.out).2.2 | (with_reducible refine Kd.C_alloc ?_ _) | (with_reducible refine Kd.C_drewN ?_ _) | (with_reducible refine Kd.C_drew ?_))); (case side2 => exact (Kd.R_reads' HO_9.out).2.1); rintro e w39 ⟨rfl, hb⟩; have n0_ := Aside0.mk (Kd.R_below (by (with_reducible repeat (first | apply Kd.R_alloc | apply Kd.R_drewN | apply Kd.R_drew)); exact HO_7.out) hb); have n1_ := Aside0.mk (Kd.R_below (by (with_reducible repeat (first | apply Kd.R_alloc | apply Kd.R_drewN | apply Kd.R_drew)); exact HO_8.out) hb); have n2_ := Aside0.mk (Kd.R_below (by (with_reducible repeat (first | apply Kd.R_alloc | apply Kd.R_drewN | apply Kd.R_drew)); exact HO_9.out) hb); have n3_ := Aside0.mk (Kd.R_below (by (with_reducible repeat (first | apply Kd.R_alloc | apply Kd.R_drewN | apply Kd.R_drew)); exact HO_10.out) hb); have n4_ := Aside0.mk (below_step (by repeat (first | (with_reducible first | exact HB.out | apply below_alloc | apply pw_below_drewN | apply below_drew1) | exact HB.out)) hb); clear HO_7; clear HO_8; clear HO_9; clear HO_10; clear HB; have HO_7 := n0_; have HO_8 := n1_; have HO_9 := n2_; have HO_10 := n3_; have HB := n4_; clear n0_ n1_ n2_ n3_ n4_; (try clear hb); (try clear hb2); (try clear hk); (try clear hi); obtain ⟨Ao40, co40, eo40⟩ := Kd.R_slice HO_10.out; subst eo40) | (go_at_call 18; (with_reducible refine (value_Of.calls k2 _ _ x10_2 ji11 t385 t386 _ ?side1 ?side2 A32.out).mono ?_); (case side1 => repeat (first | exact (Kd.R_reads' HO_10.out).2.2 | (with_reducible refine Kd.C_alloc ?_ _) | (with_reducible refine Kd.C_drewN ?_ _) | (with_reducible refine Kd.C_drew ?_))); (case side2 => exact (Kd.R_reads' HO_10.out).2.1); rintro e w41 ⟨rfl, hb⟩; have n0_ := Aside0.mk (Kd.R_below (by (with_reducible repeat (first | apply Kd.R_alloc | apply Kd.R_drewN | apply Kd.R_drew)); exact HO_7.out) hb); have n1_ := Aside0.mk (Kd.R_below (by (with_reducible repeat (first | apply Kd.R_alloc | apply Kd.R_drewN | apply Kd.R_drew)); exact HO_8.out) hb); have n2_ := Aside0.mk (Kd.R_below (by (with_reducible repeat (first | apply Kd.R_alloc | apply Kd.R_drewN | apply Kd.R_drew)); exact HO_9.out) hb); have n3_ := Aside0.mk (Kd.R_below (by (with_reducible repeat (first | apply Kd.R_alloc | apply Kd.R_drewN | apply Kd.R_drew)); exact HO_10.out) hb); have n4_ := Aside0.mk (below_step (by repeat (first | (with_reducible first | exact HB.out | apply below_alloc | apply pw_below_drewN | apply below_drew1) | exact HB.out)) hb); clear HO_7; clear HO_8; clear HO_9; clear HO_10; clear HB; have HO_7 := n0_; have HO_8 := n1_; have HO_9 := n2_; have HO_10 := n3_; have HB := n4_; clear n0_ n1_ n2_ n3_ n4_; (try clear hb); (try clear hb2); (try clear hk); (try clear hi))))
                have H := HC33.out
                clear HC33
                by_cases c42 : t380 = 0
                · rw [if_pos c42] at H
                  have c42b0 : (t380 == 0) = true := beq_iff_eq.mpr c42
                  have c42b1 : (t380 != 0) = false := bne_eq_false_iff_eq.mpr c42
                  clear c42
                  by_cases c43 : t382 = 0
                  · rw [if_pos c43] at H
                    have c43b0 : (t382 == 0) = true := beq_iff_eq.mpr c43
                    have c43b1 : (t382 != 0) = false := bne_eq_false_iff_eq.mpr c43
                    clear c43
                    by_cases c44 : t384 = 0
                    · rw [if_pos c44] at H
                      have c44b0 : (t384 == 0) = true := beq_iff_eq.mpr c44
                      have c44b1 : (t384 != 0) = false := bne_eq_false_iff_eq.mpr c44
                      clear c44
                      by_cases c45 : t386 = 0
                      · rw [if_pos c45] at H
                        have c45b0 : (t386 == 0) = true := beq_iff_eq.mpr c45
                        have c45b1 : (t386 != 0) = false := bne_eq_false_iff_eq.mpr c45
                        clear c45
                        by_cases c46 : t385 = (wrap64 (-t379))
                        · rw [if_pos c46] at H
                          have c46b0 : (t385 == (wrap64 (-t379))) = true := beq_iff_eq.mpr c46
                          have c46b1 : (t385 != (wrap64 (-t379))) = false := bne_eq_false_iff_eq.mpr c46
                          clear c46
                          by_cases c47 : (wrap64 ((wrap64 (t383 - t379)) - t381)) ≤ (wrap64 (2 * (x7_2.length : Int)))
                          · rw [if_pos c47] at H
                            have c47b0 : decide ((wrap64 ((wrap64 (t383 - t379)) - t381)) ≤ (wrap64 (2 * (x7_2.length : Int)))) = true := decide_eq_true c47
                            clear c47
                            obtain rfl := Option.some.inj H
                            go_wp2
                            repeat (go_quiet (fail); try go_wp2)
                            go_ret
                            exact ⟨by first | rfl | (simp [errW_none, errW_some] <;> rfl) | (simp only [← hji10, ← hji11, ← hji12]; first | rfl | (simp [errW_none, errW_some] <;> rfl)) | (simp [*, errW_none, errW_some] <;> rfl), by repeat (first | (with_reducible first | exact HB.out | apply below_alloc | apply pw_below_drewN | apply below_drew1) | exact HB.out)⟩
                          · rw [if_neg c47] at H
                            have c47b0 : decide ((wrap64 ((wrap64 (t383 - t379)) - t381)) ≤ (wrap64 (2 * (x7_2.length : Int)))) = false := decide_eq_false c47
                            clear c47
                            obtain rfl := Option.some.inj H
                            go_wp2
                            repeat (go_quiet (fail); try go_wp2)
                            go_ret
                            exact ⟨by first | rfl | (simp [errW_none, errW_some] <;> rfl) | (simp only [← hji10, ← hji11, ← hji12]; first | rfl | (simp [errW_none, errW_some] <;> rfl)) | (simp [*, errW_none, errW_some] <;> rfl), by repeat (first | (with_reducible first | exact HB.out | apply below_alloc | apply pw_below_drewN | apply below_drew1) | exact HB.out)⟩
                        · rw [if_neg c46] at H
                          have c46b0 : (t385 == (wrap64 (-t379))) = false := beq_eq_false_iff_ne.mpr c46
                          have c46b1 : (t385 != (wrap64 (-t379))) = true := bne_iff_ne.mpr c46
                          obtain rfl := Option.some.inj H
                          go_wp2
                          repeat (go_quiet (fail); try go_wp2)
                          go_ret
                          exact ⟨by first | rfl | (simp [errW_none, errW_some] <;> rfl) | (simp only [← hji10, ← hji11, ← hji12]; first | rfl | (simp [errW_none, errW_some] <;> rfl)) | (simp [*, errW_none, errW_some] <;> rfl), by repeat (first | (with_reducible first | exact HB.out | apply below_alloc | apply pw_below_drewN | apply below_drew1) | exact HB.out)⟩
                      · rw [if_neg c45] at H
                        have c45b0 : (t386 == 0) = false := beq_eq_false_iff_ne.mpr c45
                        have c45b1 : (t386 != 0) = true := bne_iff_ne.mpr c45
                        obtain rfl := Option.some.inj H
                        go_wp2
                        repeat (go_quiet (fail); try go_wp2)
                        go_ret
                        exact ⟨by first | rfl | (simp [errW_none, errW_some] <;> rfl) | (simp only [← hji10, ← hji11, ← hji12]; first | rfl | (simp [errW_none, errW_some] <;> rfl)) | (simp [*, errW_none, errW_some] <;> rfl), by repeat (first | (with_reducible first | exact HB.out | apply below_alloc | apply pw_below_drewN | apply below_drew1) | exact HB.out)⟩
                    · rw [if_neg c44] at H
                      have c44b0 : (t384 == 0) = false := beq_eq_false_iff_ne.mpr c44
                      have c44b1 : (t384 != 0) = true := bne_iff_ne.mpr c44
                      obtain rfl := Option.some.inj H
                      go_wp2
                      repeat (go_quiet (fail); try go_wp2)
                      go_ret
                      exact ⟨by first | rfl | (simp [errW_none, errW_some] <;> rfl) | (simp only [← hji10, ← hji11, ← hji12]; first | rfl | (simp [errW_none, errW_some] <;> rfl)) | (simp [*, errW_none, errW_some] <;> rfl), by repeat (first | (with_reducible first | exact HB.out | apply below_alloc | apply pw_below_drewN | apply below_drew1) | exact HB.out)⟩
                  · rw [if_neg c43] at H
                    have c43b0 : (t382 == 0) = false := beq_eq_false_iff_ne.mpr c43
                    have c43b1 : (t382 != 0) = true := bne_iff_ne.mpr c43
                    obtain rfl := Option.some.inj H
                    go_wp2
                    repeat (go_quiet (fail); try go_wp2)
                    go_ret
                    exact ⟨by first | rfl | (simp [errW_none, errW_some] <;> rfl) | (simp only [← hji10, ← hji11, ← hji12]; first | rfl | (simp [errW_none, errW_some] <;> rfl)) | (simp [*, errW_none, errW_some] <;> rfl), by repeat (first | (with_reducible first | exact HB.out | apply below_alloc | apply pw_below_drewN | apply below_drew1) | exact HB.out)⟩
                · rw [if_neg c42] at H
                  have c42b0 : (t380 == 0) = false := beq_eq_false_iff_ne.mpr c42
                  have c42b1 : (t380 != 0) = true := bne_iff_ne.mpr c42
                  obtain rfl := Option.some.inj H
                  go_wp2
                  repeat (go_quiet (fail); try go_wp2)
                  go_ret
                  exact ⟨by first | rfl | (simp [errW_none, errW_some] <;> rfl) | (simp only [← hji10, ← hji11, ← hji12]; first | rfl | (simp [errW_none, errW_some] <;> rfl)) | (simp [*, errW_none, errW_some] <;> rfl), by repeat (first | (with_reducible first | exact HB.out | apply below_alloc | apply pw_below_drewN | apply below_drew1) | exact HB.out)⟩
  · replace c5 := Bool.eq_false_iff.mpr c5
    subst c5
    have H1 : (some false) = some r := by rw [if_neg (show ¬ (false = true) by decide)] at H; exact H
    clear H
    have H := H1
    clear H1
    obtain rfl := Option.some.inj H
    go_enter Try.func6, Try.ntmps6
    go_wp2_with (first | (go_at_call 16; (with_reducible refine (lombardlaw09_alive.calls k  false _ A4.out).mono ?_); rintro e w48 ⟨rfl, hb⟩; have n0_ := Aside0.mk (below_step (by repeat (first | (with_reducible first | exact HB.out | apply below_alloc | apply pw_below_drewN | apply below_drew1) | exact HB.out)) hb); clear HB; have HB := n0_; clear n0_; (try clear hb); (try clear hb2); (try clear hk); (try clear hi)))
    repeat (go_quiet (first | (go_at_call 16; (with_reducible refine (lombardlaw09_alive.calls k  false _ A4.out).mono ?_); rintro e w48 ⟨rfl, hb⟩; have n0_ := Aside0.mk (below_step (by repeat (first | (with_reducible first | exact HB.out | apply below_alloc | apply pw_below_drewN | apply below_drew1) | exact HB.out)) hb); clear HB; have HB := n0_; clear n0_; (try clear hb); (try clear hb2); (try clear hk); (try clear hi))); try go_wp2_with (first | (go_at_call 16; (with_reducible refine (lombardlaw09_alive.calls k  false _ A4.out).mono ?_); rintro e w48 ⟨rfl, hb⟩; have n0_ := Aside0.mk (below_step (by repeat (first | (with_reducible first | exact HB.out | apply below_alloc | apply pw_below_drewN | apply below_drew1) | exact HB.out)) hb); clear HB; have HB := n0_; clear n0_; (try clear hb); (try clear hb2); (try clear hk); (try clear hi))))
    go_ret
    exact ⟨by first | rfl | (simp [errW_none, errW_some] <;> rfl) | (simp [*, errW_none, errW_some] <;> rfl), by repeat (first | (with_reducible first | exact HB.out | apply below_alloc | apply pw_below_drewN | apply below_drew1) | exact HB.out)⟩

/-- THE ONE PURE STATEMENT of lombardlaw09_ValueAdds: yours. -/
def lombardlaw09_ValueAdds.Pure : Prop := ∀ (l0 : List Int) (l1 : List Int) (a2 : Int), l0.length ≤ maxLen → l0.length * 8 ≤ 140737488351232 → (∀ x ∈ l0, (Lit.int .i64 x).wf = true) → l1.length ≤ maxLen → l1.length * 8 ≤ 140737488351232 → (∀ x ∈ l1, (Lit.int .i64 x).wf = true) → (Lit.int .i64 a2).wf = true → ∃ k, lombardlaw09_ValueAdds.f k l0 l1 a2 = some true
theorem lombardlaw09_ValueAdds.walk (P : lombardlaw09_ValueAdds.Pure) (a0 : Option Addr) (len0 cap0 : Nat) (z0 : List Int) (a1 : Option Addr) (len1 cap1 : Nat) (z1 : List Int) (a2 : Int) (w : World) (w0 : (a0 = none ∧ len0 = 0 ∧ cap0 = 0 ∧ z0 = []) ∨ ∃ x, a0 = some x ∧ len0 ≤ cap0 ∧ cap0 ≤ maxLen ∧ z0.length = cap0 ∧ (∀ i, i < z0.length → w.cell? (x.add i) = some (.int .i64 (z0.getD i 0))) ∧ ∀ n ∈ z0, (Lit.int .i64 n).wf = true) (y0 : len0 * 8 ≤ 140737488351232) (w1 : (a1 = none ∧ len1 = 0 ∧ cap1 = 0 ∧ z1 = []) ∨ ∃ x, a1 = some x ∧ len1 ≤ cap1 ∧ cap1 ≤ maxLen ∧ z1.length = cap1 ∧ (∀ i, i < z1.length → w.cell? (x.add i) = some (.int .i64 (z1.getD i 0))) ∧ ∀ n ∈ z1, (Lit.int .i64 n).wf = true) (y1 : len1 * 8 ≤ 140737488351232) (w2 : (Lit.int .i64 a2).wf = true) :
    Calls Try.prog 6 #[.slice a0 len0 cap0, .slice a1 len1 cap1, .int .i64 a2] w fun e w' => e = .returned (.bool true) ∧ Below w.heap.size w w' := by
  obtain ⟨l0, rfl, hr0, hm0, hw0, hc0⟩ := ReadsInt.ofRowC w0
  obtain ⟨l1, rfl, hr1, hm1, hw1, hc1⟩ := ReadsInt.ofRowC w1
  obtain ⟨k, h⟩ := P l0 l1 a2 hm0 y0 hw0 hm1 y1 hw1 w2
  refine (lombardlaw09_ValueAdds.calls k _ _ l0 _ _ l1 a2 true w (Kd.C_of_reads (d := (0 : Int)) (h1 := fun _ => rfl) hr0) hc0 (Kd.C_of_reads (d := (0 : Int)) (h1 := fun _ => rfl) hr1) hc1 h).mono ?_
  rintro e w' ⟨rfl, hd⟩
  exact ⟨rfl, hd⟩

end Go.Proofs.Ytalnlphinlfenaa.S
end

section
namespace Go.Proofs.Ytalnlphinlfenaa.S
open Go.RowKit Go.Proofs.YtalnlphinlfenaaW.PrintWords Go.Proofs.YtalnlphinlfenaaW.PrintLast Go.Proofs.YtalnlphinlfenaaW.PrintMore
attribute [local go_sem] max2_int min2_int max_two min_two max_three min_three max_four min_four   -- for this text's walks alone
attribute [local go_sem] Go.Proofs.Ytalnlphinlfenaa.XWalk.cell2
set_option linter.unusedVariables false
set_option linter.unusedSimpArgs false

/-! ### money_Sum: function 20 -/
def money_Sum.l0 : Nat → Int → Int → List Int → Int → Int → Option (Int × Int)
  | 0, _, _, _, _, _ => none
  | k + 1, x4, x5, x10, x11, x12 => if x12 < x11 then (if 0 ≤ x12 then (if x12 < (x10.length : Int) then (if 0 ≤ x4 then (if 0 ≤ (IntKind.u64.wrap (rd x10 x12)) then (money_Sum.l0 k (Go.Proofs.Ytalnlphinlfenaa.XWalk.s64 x4 (IntKind.u64.wrap (rd x10 x12)) 0) (wrap64 ((wrap64 (x5 + ((rd x10 x12) / 9223372036854775808))) + (wrap64 (Go.Proofs.Ytalnlphinlfenaa.XWalk.c64 x4 (IntKind.u64.wrap (rd x10 x12)) 0)))) x10 x11 (wrap64 (x12 + 1))) else (none)) else (none)) else (none)) else (none)) else ((money_told.f (wrap64 (x4)) (x5 == ((wrap64 (x4)) / 9223372036854775808))).bind fun bt398 => (some (bt398.1, bt398.2)))
def money_Sum.f (k : Nat) (l0 : List Int) : Option (Int × Int) := money_Sum.l0 k 0 0 l0 (l0.length : Int) 0
end Go.Proofs.Ytalnlphinlfenaa.S
end

section
namespace Go.Proofs.Ytalnlphinlfenaa.XSum
set_option linter.unusedVariables false
set_option linter.unusedSimpArgs false
open Go.RowKit Go.Proofs.Ytalnlphinlfenaa.S Go.Proofs.Ytalnlphinlfenaa.XNum Go.Proofs.Ytalnlphinlfenaa.XBits Go.Proofs.Ytalnlphinlfenaa.XWide Go.Proofs.Ytalnlphinlfenaa.XMoney Go.Proofs.YtalnlphinlfenaaW.PrintWords

/-- all together -/
def tot : List Int → Int
  | [] => 0
  | x :: l => x + tot l
theorem tot_append (a b : List Int) : tot (a ++ b) = tot a + tot b := by
  induction a with
  | nil => simp [tot]
  | cons x a ih => simp only [List.cons_append, tot, ih]; omega
theorem rd_lt {l : List Int} {i : Nat} (h : i < l.length) : rd l (i : Int) = l[i] := by
  unfold rd
  simp [h]
theorem tot_take {l : List Int} {i : Nat} (h : i < l.length) : tot (l.take (i + 1)) = tot (l.take i) + l[i] := by
  rw [List.take_add_one, List.getElem?_eq_getElem h, tot_append]
  simp [tot]

theorem sum_l0 {l : List Int} (hl : ∀ x ∈ l, I64 x) (hn : l.length ≤ 1099511627776) : ∀ (d i : Nat) (lo hi : Int) (k : Nat), i + d = l.length → d + 1 ≤ k → 0 ≤ lo → lo < 18446744073709551616 → -(i : Int) ≤ hi → hi ≤ i →
    hi * 18446744073709551616 + lo = tot (l.take i) → money_Sum.l0 k lo hi l l.length i = some (told (tot l)) := by
  intro d
  induction d with
  | zero =>
    intro i lo hi k hi' hk l0 l1 h0 h1 e
    obtain ⟨k, rfl⟩ : ∃ m, k = m + 1 := ⟨k - 1, by omega⟩
    rw [List.take_of_length_le (by omega)] at e
    simp only [money_Sum.l0]
    rw [if_neg (by omega), told_f, ← e]
    simp only [Option.bind_some]
    by_cases c : -9223372036854775808 ≤ hi * 18446744073709551616 + lo ∧ hi * 18446744073709551616 + lo ≤ 9223372036854775807
    · rw [told_in c.1 c.2, if_pos (by rw [beq_iff_eq]; unfold wrap64; omega)]
      congr 2
      unfold wrap64
      omega
    · rw [told_out (by omega), if_neg (by rw [beq_iff_eq]; unfold wrap64; omega)]
  | succ d ih =>
    intro i lo hi k hi' hk l0 l1 h0 h1 e
    obtain ⟨k, rfl⟩ : ∃ m, k = m + 1 := ⟨k - 1, by omega⟩
    have hlt : i < l.length := by omega
    obtain ⟨x0, x1⟩ := hl l[i] (List.getElem_mem hlt)
    simp only [money_Sum.l0]
    rw [if_pos (by omega), if_pos (by omega), if_pos (by omega), if_pos l0, rd_lt hlt, if_pos (by rw [wu]; omega), w64 (n := (i : Int) + 1) (by omega) (by omega)]
    have c0 : 0 ≤ XWalk.c64 lo (IntKind.u64.wrap l[i]) 0 ∧ XWalk.c64 lo (IntKind.u64.wrap l[i]) 0 ≤ 1 := by
      rw [wu]; unfold XWalk.c64; omega
    have s0 : 0 ≤ XWalk.s64 lo (IntKind.u64.wrap l[i]) 0 ∧ XWalk.s64 lo (IntKind.u64.wrap l[i]) 0 < 18446744073709551616 := by
      unfold XWalk.s64; omega
    have e0 : XWalk.c64 lo (IntKind.u64.wrap l[i]) 0 * 18446744073709551616 + XWalk.s64 lo (IntKind.u64.wrap l[i]) 0 = lo + l[i] - l[i] / 9223372036854775808 * 18446744073709551616 := by
      rw [wu]; unfold XWalk.c64 XWalk.s64; omega
    generalize XWalk.c64 lo (IntKind.u64.wrap l[i]) 0 = c at *
    generalize XWalk.s64 lo (IntKind.u64.wrap l[i]) 0 = s at *
    have d0 : -1 ≤ l[i] / 9223372036854775808 ∧ l[i] / 9223372036854775808 ≤ 0 := by omega
    rw [w64 (n := c) (by omega) (by omega), w64 (n := hi + l[i] / 9223372036854775808) (by omega) (by omega), w64 (n := hi + l[i] / 9223372036854775808 + c) (by omega) (by omega)]
    refine ih (i + 1) _ _ k (by omega) (by omega) s0.1 s0.2 (by omega) (by omega) ?_
    rw [tot_take hlt, ← e]
    omega

theorem sum {l : List Int} (hl : ∀ x ∈ l, I64 x) (hn : l.length ≤ 1099511627776) {k : Nat} (hk : l.length + 1 ≤ k) : money_Sum.f k l = some (told (tot l)) := by
  unfold money_Sum.f
  exact sum_l0 hl hn l.length 0 0 0 k (by omega) hk (by omega) (by omega) (by omega) (by omega) (by simp [tot])
end Go.Proofs.Ytalnlphinlfenaa.XSum
end

section
namespace Go.Proofs.Ytalnlphinlfenaa.XValue
set_option linter.unusedVariables false
set_option linter.unusedSimpArgs false
open Go.RowKit Go.Proofs.Ytalnlphinlfenaa.S Go.Proofs.Ytalnlphinlfenaa.XNum Go.Proofs.Ytalnlphinlfenaa.XBits Go.Proofs.Ytalnlphinlfenaa.XWide Go.Proofs.Ytalnlphinlfenaa.Rnd Go.Proofs.Ytalnlphinlfenaa.XMdiv Go.Proofs.Ytalnlphinlfenaa.XRate Go.Proofs.Ytalnlphinlfenaa.XSum Go.Proofs.YtalnlphinlfenaaW.PrintWords

/-- may an amount be? -/
def mayM (x : Int) : Prop := -10000000000000 ≤ x ∧ x ≤ 10000000000000
instance (x : Int) : Decidable (mayM x) := inferInstanceAs (Decidable (_ ∧ _))
theorem no_f (x : Int) : value_times_1.f x = some (!decide (mayM x)) := by
  unfold value_times_1.f
  rw [XMoney.may]
  rfl
theorem index {l : List Int} (hn : l.length ≤ 1000000) : ∀ (d i k : Nat), i + d = l.length → d + 1 ≤ k →
    ∃ j, slices_IndexFunc_int64_int64__value_times_1.l0 k l (l.length : Int) (i : Int) = some j ∧ (0 ≤ j ↔ ¬ ∀ x ∈ l.drop i, mayM x) := by
  intro d
  induction d with
  | zero =>
    intro i k h hk
    obtain ⟨k, rfl⟩ : ∃ k', k = k' + 1 := ⟨k - 1, by omega⟩
    refine ⟨-1, ?_, ?_⟩
    · unfold slices_IndexFunc_int64_int64__value_times_1.l0
      rw [if_neg (by omega)]
    · rw [List.drop_eq_nil_of_le (by omega)]
      simp
  | succ d ih =>
    intro i k h hk
    obtain ⟨k, rfl⟩ : ∃ k', k = k' + 1 := ⟨k - 1, by omega⟩
    have hi : i < l.length := by omega
    unfold slices_IndexFunc_int64_int64__value_times_1.l0
    rw [if_pos (by omega), if_pos (by omega), if_pos (by omega), no_f, Option.bind_some, rd_lt hi, List.drop_eq_getElem_cons hi]
    by_cases c : mayM l[i]
    · rw [decide_eq_true c, if_neg (by simp), w64 (by omega) (by omega)]
      obtain ⟨j, h1, h2⟩ := ih (i + 1) k (by omega) (by omega)
      refine ⟨j, by rw [← h1]; rfl, ?_⟩
      rw [h2, List.forall_mem_cons]
      exact ⟨fun h g => h g.2, fun h g => h ⟨c, g⟩⟩
    · rw [decide_eq_false c, if_pos (by rfl)]
      exact ⟨_, rfl, fun _ g => c (g _ List.mem_cons_self), fun _ => by omega⟩
theorem contains_f {l : List Int} (hn : l.length ≤ 1000000) {k : Nat} (hk : l.length + 1 ≤ k) : slices_ContainsFunc_int64_int64__value_times_1.f k l = some (!decide (∀ x ∈ l, mayM x)) := by
  unfold slices_ContainsFunc_int64_int64__value_times_1.f slices_IndexFunc_int64_int64__value_times_1.f
  obtain ⟨j, h1, h2⟩ := index hn l.length 0 k (by omega) hk
  rw [show ((0 : Nat) : Int) = 0 from rfl] at h1
  rw [h1, Option.bind_some]
  rw [List.drop_zero] at h2
  by_cases c : ∀ x ∈ l, mayM x
  · rw [decide_eq_true c, decide_eq_false (fun g => (h2.1 g) c)]
    rfl
  · rw [decide_eq_false c, decide_eq_true (h2.2 c)]
    rfl

theorem set_mid (A C : List Int) (y z : Int) : (A ++ y :: C).set A.length z = A ++ z :: C := by simp
theorem rd_mid (A C : List Int) (y : Int) : rd (A ++ y :: C) (A.length : Int) = y := by
  unfold rd
  simp
theorem rev_l0 : ∀ (n : Nat) (A B C : List Int) (k : Nat), B.length ≤ n → A.length + B.length + C.length ≤ 1000000000 → B.length + 1 ≤ k →
    slices_Reverse_int64_int64.l0 k (A ++ B ++ C) (A.length : Int) ((A.length : Int) + B.length - 1) = some (A ++ B.reverse ++ C) := by
  intro n
  induction n with
  | zero =>
    intro A B C k h hl hk
    obtain ⟨k, rfl⟩ : ∃ k', k = k' + 1 := ⟨k - 1, by omega⟩
    obtain rfl : B = [] := List.length_eq_zero_iff.1 (by omega)
    unfold slices_Reverse_int64_int64.l0
    rw [if_neg (by simp only [List.length_nil]; omega)]
    rfl
  | succ n ih =>
    intro A B C k h hl hk
    obtain ⟨k, rfl⟩ : ∃ k', k = k' + 1 := ⟨k - 1, by omega⟩
    cases B with
    | nil =>
      unfold slices_Reverse_int64_int64.l0
      rw [if_neg (by simp only [List.length_nil]; omega)]
      rfl
    | cons p R =>
      rcases List.eq_nil_or_concat R with rfl | ⟨M, q, rfl⟩
      · unfold slices_Reverse_int64_int64.l0
        rw [if_neg (by simp only [List.length_cons, List.length_nil]; omega)]
        rfl
      · rw [List.concat_eq_append] at *
        simp only [List.length_cons, List.length_append, List.length_nil, Nat.zero_add] at h hl hk
        have e1 : A ++ p :: (M ++ [q]) ++ C = A ++ p :: (M ++ q :: C) := by simp
        have e2 : A ++ q :: (M ++ q :: C) = (A ++ q :: M) ++ q :: C := by simp
        have e3 : A ++ p :: (M ++ q :: C) = (A ++ p :: M) ++ q :: C := by simp
        have lp : ((A ++ p :: M).length : Int) = (A.length : Int) + (p :: (M ++ [q])).length - 1 := by simp only [List.length_cons, List.length_append, List.length_nil]; omega
        have lq : (A ++ q :: M).length = ((A.length : Int) + (p :: (M ++ [q])).length - 1).toNat := by simp only [List.length_cons, List.length_append, List.length_nil]; omega
        have la : A.length = ((A.length : Nat) : Int).toNat := by omega
        have len : (A ++ p :: (M ++ q :: C)).length = A.length + (M.length + 2) + C.length := by simp only [List.length_cons, List.length_append]; omega
        have r1 : rd (A ++ p :: (M ++ q :: C)) ((A.length : Int) + (p :: (M ++ [q])).length - 1) = q := by rw [e3, ← lp, rd_mid]
        have lb : (p :: (M ++ [q])).length = M.length + 2 := by simp only [List.length_cons, List.length_append, List.length_nil]
        rw [e1]
        unfold slices_Reverse_int64_int64.l0
        rw [if_pos (by rw [lb]; omega), if_pos (by rw [lb]; omega), if_pos (by rw [len, lb]; omega), if_pos (by omega), if_pos (by rw [len]; omega), r1, rd_mid]
        rw [← la, set_mid, e2, ← lq, set_mid]
        have e4 : (A ++ q :: M) ++ p :: C = (A ++ [q]) ++ M ++ (p :: C) := by simp
        have g := ih (A ++ [q]) M (p :: C) k (by omega) (by simp only [List.length_cons, List.length_append, List.length_nil]; omega) (by omega)
        rw [w64 (by omega) (by omega), w64 (by rw [lb]; omega) (by rw [lb]; omega), e4]
        have g1 : (((A ++ [q]).length : Nat) : Int) = (A.length : Int) + 1 := by simp only [List.length_cons, List.length_append, List.length_nil]; omega
        rw [g1] at g
        rw [show (A.length : Int) + (p :: (M ++ [q])).length - 1 - 1 = (A.length : Int) + 1 + M.length - 1 by rw [lb]; omega, g]
        simp
theorem reverse_f {l : List Int} (hn : l.length ≤ 1000000) {k : Nat} (hk : l.length + 1 ≤ k) : slices_Reverse_int64_int64.f k l = some l.reverse := by
  unfold slices_Reverse_int64_int64.f
  rw [w64 (by omega) (by omega)]
  have h := rev_l0 l.length [] l [] k (Nat.le_refl _) (by simp; omega) hk
  simp only [List.nil_append, List.append_nil, List.length_nil] at h
  rw [show ((0 : Nat) : Int) + (l.length : Int) - 1 = (l.length : Int) - 1 by omega] at h
  exact h

/-- what amounts are worth now, and the first error -/
def wv (r : Int) : List Int → Int × Int
  | [] => (0, 0)
  | x :: l => ((value_fold.stepv 1 r x (wv r l).1).1, if (wv r l).2 = 0 then (value_fold.stepv 1 r x (wv r l).1).2 else (wv r l).2)
/-- .. at each time -/
def wl (r : Int) : List Int → List Int
  | [] => [0]
  | x :: l => (wv r (x :: l)).1 :: wl r l
theorem wl_head (r : Int) (l : List Int) : ∃ t, wl r l = (wv r l).1 :: t := by
  cases l with
  | nil => exact ⟨[], rfl⟩
  | cons x l => exact ⟨wl r l, rfl⟩
theorem wl_length (r : Int) (l : List Int) : (wl r l).length = l.length + 1 := by
  induction l with
  | nil => rfl
  | cons x l ih => rw [wl, List.length_cons, ih, List.length_cons]
theorem wl_at (r : Int) : ∀ (l : List Int) (i : Nat), i ≤ l.length → rd (wl r l) (i : Int) = (wv r (l.drop i)).1 := by
  intro l
  induction l with
  | nil =>
    intro i h
    obtain rfl : i = 0 := by simpa using h
    rfl
  | cons x l ih =>
    intro i h
    cases i with
    | zero => rfl
    | succ i =>
      have g := ih i (by rw [List.length_cons] at h; omega)
      rw [List.drop_succ_cons, ← g, wl]
      unfold rd
      rw [Int.toNat_natCast, Int.toNat_natCast, List.getD_eq_getElem?_getD, List.getD_eq_getElem?_getD, List.getElem?_cons_succ]
theorem last_rev (y : Int) (t : List Int) : value_fold.last ((y :: t).reverse) = y := by
  unfold value_fold.last rd
  rw [List.length_reverse, List.length_cons, show (((t.length + 1 : Nat) : Int) - 1).toNat = t.length by omega, List.reverse_cons, List.getD_eq_getElem?_getD, List.getElem?_append_right (by rw [List.length_reverse]; omega)]
  simp
theorem runs_wl (r : Int) (l : List Int) : value_fold.runs 1 r 0 l.reverse = ((wl r l).reverse, (wv r l).2) := by
  induction l with
  | nil => rfl
  | cons x l ih =>
    rw [List.reverse_cons, value_fold.runs_snoc, ih]
    unfold value_fold.next
    obtain ⟨t, ht⟩ := wl_head r l
    have e : value_fold.last (wl r l).reverse = (wv r l).1 := by rw [ht, last_rev]
    rw [e, wl, List.reverse_cons]
    rfl

/-- what they may come to -/
def all (r : Int) (l : List Int) : List Int × Int :=
  if l.length ≤ 600 then (if ∀ x ∈ l, mayM x then (if mayR r then (if (wv r l).2 = 0 then (wl r l, 0) else ([], (wv r l).2)) else ([], 2)) else ([], 2)) else ([], 10)
def of (r : Int) (l : List Int) : Int × Int :=
  if l.length ≤ 600 then (if ∀ x ∈ l, mayM x then (if mayR r then (if (wv r l).2 = 0 then ((wv r l).1, 0) else (0, (wv r l).2)) else (0, 2)) else (0, 2)) else (0, 10)
theorem times_f {l : List Int} {r : Int} {k : Nat} (hk : 700 ≤ k) : value_times.f k l r 1 = some (all r l) := by
  unfold value_times.f all
  by_cases c : l.length ≤ 600
  · rw [if_neg (by omega), if_pos c, contains_f (by omega) (by omega), Option.bind_some]
    by_cases m : ∀ x ∈ l, mayM x
    · rw [decide_eq_true m, if_neg (by simp), if_pos m, may, Option.bind_some]
      by_cases h : mayR r
      · rw [decide_eq_true h, if_pos rfl, if_pos h]
        unfold value_fold_int64_int64__value_times_2.f
        rw [if_pos ⟨by omega, ⟨by omega, by omega⟩, by omega⟩]
        unfold value_fold.all
        rw [runs_wl]
        dsimp only
        by_cases e : (wv r l).2 = 0
        · rw [if_pos e, if_pos e, reverse_f (by rw [List.length_reverse, wl_length]; omega) (by rw [List.length_reverse, wl_length]; omega), List.reverse_reverse]
          rfl
        · rw [if_neg e, if_neg e]
          rfl
      · rw [decide_eq_false h, if_neg (by simp), if_neg h]
    · rw [decide_eq_false m, if_pos (by rfl), if_neg m]
  · rw [if_pos (by omega), if_neg c]
theorem all_f {l : List Int} {r : Int} {k : Nat} (hk : 700 ≤ k) : value_All.f k l r = some (all r l) := by
  unfold value_All.f
  rw [times_f hk]
  rfl
theorem of_f {l : List Int} {r : Int} {k : Nat} (hk : 700 ≤ k) : value_Of.f k l r = some (of r l) := by
  unfold value_Of.f value_now.f
  rw [times_f hk, Option.bind_some]
  unfold all of
  by_cases c : l.length ≤ 600
  · rw [if_pos c, if_pos c]
    by_cases m : ∀ x ∈ l, mayM x
    · rw [if_pos m, if_pos m]
      by_cases h : mayR r
      · rw [if_pos h, if_pos h]
        by_cases e : (wv r l).2 = 0
        · rw [if_pos e, if_pos e, if_pos rfl, if_pos (by dsimp only; rw [wl_length]; omega)]
          have g := wl_at r l 0 (by omega)
          rw [List.drop_zero] at g
          rw [show ((0 : Nat) : Int) = 0 from rfl] at g
          dsimp only
          rw [g]
          rfl
        · rw [if_neg e, if_neg e]
          dsimp only
          rw [if_neg e]
          rfl
      · rw [if_neg h, if_neg h]
        rfl
    · rw [if_neg m, if_neg m]
      rfl
  · rw [if_neg c, if_neg c]
    rfl

/-- a step -/
def disc (r s : Int) : Int := near (s * 1000000000000) (1000000000000 + r)
abbrev Big (n : Int) : Prop := -4611686018427387904 ≤ n ∧ n ≤ 4611686018427387904
theorem step {r x b : Int} (hr : mayR r) (hx : mayM x) (hb : Big b) : (Big (disc r (x + b)) → value_fold.stepv 1 r x b = (disc r (x + b), 0)) ∧ (¬ Big (disc r (x + b)) → (value_fold.stepv 1 r x b).2 = 3) := by
  unfold mayM at hx
  unfold value_fold.stepv
  rw [Int.mul_one, w64 (by omega) (by omega), XMoney.told_in (by omega) (by omega)]
  dsimp only
  rw [if_pos rfl]
  have hd : discount (x + b) r = if I64 (disc r (x + b)) then (disc r (x + b), 0) else (0, 3) := by
    unfold discount disc
    rw [if_pos hr, mdiv_n (by unfold mayR at hr; omega)]
  rw [hd]
  generalize disc r (x + b) = v at *
  constructor
  · intro h
    rw [if_pos (show I64 v from ⟨by omega, by omega⟩)]
    dsimp only
    rw [if_pos rfl, if_neg (by omega), if_neg (by omega)]
  · intro h
    by_cases c : I64 v
    · rw [if_pos c]
      dsimp only
      rw [if_pos rfl]
      by_cases d : v > 4611686018427387904
      · rw [if_pos d]
      · rw [if_neg d, if_pos (by omega)]
    · rw [if_neg c]
      rfl
theorem wv_cons {r x : Int} {l : List Int} (hr : mayR r) (hx : mayM x) (h0 : (wv r l).2 = 0) (hb : Big (wv r l).1) : (Big (disc r (x + (wv r l).1)) → wv r (x :: l) = (disc r (x + (wv r l).1), 0)) ∧ (¬ Big (disc r (x + (wv r l).1)) → (wv r (x :: l)).2 = 3) := by
  obtain ⟨h1, h2⟩ := step hr hx hb
  have e : wv r (x :: l) = ((value_fold.stepv 1 r x (wv r l).1).1, if (wv r l).2 = 0 then (value_fold.stepv 1 r x (wv r l).1).2 else (wv r l).2) := rfl
  rw [e, if_pos h0]
  constructor
  · intro h
    rw [h1 h]
  · intro h
    exact h2 h
/-- whether it goes well, and what it then is -/
theorem wv_ok {r : Int} (hr : mayR r) : ∀ {l : List Int}, (∀ x ∈ l, mayM x) → ((wv r l).2 = 0 → Big (wv r l).1) ∧ ((wv r l).2 = 0 ∨ (wv r l).2 = 3) := by
  intro l
  induction l with
  | nil => intro _; exact ⟨fun _ => ⟨by show (-4611686018427387904 : Int) ≤ 0; omega, by show (0 : Int) ≤ 4611686018427387904; omega⟩, .inl rfl⟩
  | cons x l ih =>
    intro hm
    obtain ⟨h1, h2⟩ := ih fun y hy => hm y (List.mem_cons_of_mem _ hy)
    by_cases h0 : (wv r l).2 = 0
    · obtain ⟨g1, g2⟩ := wv_cons hr (hm x List.mem_cons_self) h0 (h1 h0)
      by_cases c : Big (disc r (x + (wv r l).1))
      · rw [g1 c]
        exact ⟨fun _ => c, .inl rfl⟩
      · have := g2 c
        exact ⟨fun e => by rw [this] at e; exact absurd e (by decide), .inr this⟩
    · have e : (wv r (x :: l)).2 = (wv r l).2 := by
        show (if (wv r l).2 = 0 then _ else _) = _
        rw [if_neg h0]
      rw [e]
      exact ⟨fun g => absurd g h0, h2⟩
theorem wv_tail {r x : Int} {l : List Int} (h : (wv r (x :: l)).2 = 0) : (wv r l).2 = 0 := by
  by_cases c : (wv r l).2 = 0
  · exact c
  · have e : (wv r (x :: l)).2 = (wv r l).2 := by
      show (if (wv r l).2 = 0 then _ else _) = _
      rw [if_neg c]
    rw [e] at h
    exact absurd h c
/-- each is the one behind it and the amount, discounted -/
theorem wv_step {r x : Int} {l : List Int} (hr : mayR r) (hm : ∀ y ∈ x :: l, mayM y) (h : (wv r (x :: l)).2 = 0) : (wv r (x :: l)).1 = disc r (x + (wv r l).1) ∧ Big (disc r (x + (wv r l).1)) ∧ Big (wv r l).1 := by
  have ht := wv_tail h
  have hb := (wv_ok hr fun y hy => hm y (List.mem_cons_of_mem _ hy)).1 ht
  obtain ⟨g1, g2⟩ := wv_cons hr (hm x List.mem_cons_self) ht hb
  by_cases c : Big (disc r (x + (wv r l).1))
  · rw [g1 c]
    exact ⟨rfl, c, hb⟩
  · rw [g2 c] at h
    exact absurd h (by decide)
/-- at a rate of 0 or more no step grows -/
theorem disc_le {r s M : Int} (h0 : 0 ≤ r) (hM : 0 ≤ M) (h1 : s ≤ M) : disc r s ≤ M := by
  unfold disc
  have h : near (s * 1000000000000) (1000000000000 + r) ≤ near ((1000000000000 + r) * M) (1000000000000 + r) := by
    refine near_mono (by omega) ?_
    have := Int.mul_nonneg h0 hM
    rw [Int.add_mul]
    omega
  rw [near_exact (by omega)] at h
  exact h
theorem disc_ge {r s M : Int} (h0 : 0 ≤ r) (hM : 0 ≤ M) (h1 : -M ≤ s) : -M ≤ disc r s := by
  have h := disc_le (s := -s) h0 hM (by omega)
  unfold disc at h ⊢
  rw [Int.neg_mul, near_neg (by omega)] at h
  omega
theorem wv_small {r M : Int} (hr : mayR r) (h0 : 0 ≤ r) (hM : 0 ≤ M) (hM1 : M ≤ 10000000000000) : ∀ {l : List Int}, l.length ≤ 1000 → (∀ x ∈ l, -M ≤ x ∧ x ≤ M) → (wv r l).2 = 0 ∧ -(M * l.length) ≤ (wv r l).1 ∧ (wv r l).1 ≤ M * l.length := by
  intro l
  induction l with
  | nil => intro _ _; exact ⟨rfl, by show -(M * 0) ≤ (0 : Int); omega, by show (0 : Int) ≤ M * 0; omega⟩
  | cons x l ih =>
    intro hl hm
    obtain ⟨g0, g1, g2⟩ := ih (by rw [List.length_cons] at hl; omega) fun y hy => hm y (List.mem_cons_of_mem _ hy)
    obtain ⟨x0, x1⟩ := hm x List.mem_cons_self
    have hL : M * (x :: l).length = M * l.length + M := by rw [List.length_cons, Int.natCast_add, Int.mul_add]; omega
    have hLe : M * l.length ≤ 10000000000000 * 1000 := by
      have a : M * (l.length : Int) ≤ M * 1000 := Int.mul_le_mul_of_nonneg_left (by rw [List.length_cons] at hl; omega) hM
      omega
    have hn : 0 ≤ M * (l.length : Int) := Int.mul_nonneg hM (by omega)
    rw [hL]
    generalize M * (l.length : Int) = T at *
    have u := disc_le (r := r) (s := x + (wv r l).1) (M := T + M) h0 (by omega) (by omega)
    have v := disc_ge (r := r) (s := x + (wv r l).1) (M := T + M) h0 (by omega) (by omega)
    obtain ⟨c1, c2⟩ := wv_cons (r := r) (x := x) (l := l) hr ⟨by omega, by omega⟩ g0 ⟨by omega, by omega⟩
    rw [c1 ⟨by omega, by omega⟩]
    exact ⟨rfl, v, u⟩
theorem of_ok {r : Int} {l : List Int} (hl : l.length ≤ 600) (hm : ∀ x ∈ l, mayM x) (hr : mayR r) : of r l = if (wv r l).2 = 0 then ((wv r l).1, 0) else (0, 3) := by
  unfold of
  rw [if_pos hl, if_pos hm, if_pos hr]
  by_cases c : (wv r l).2 = 0
  · rw [if_pos c, if_pos c]
  · rw [if_neg c, if_neg c, (wv_ok hr hm).2.resolve_left c]
end Go.Proofs.Ytalnlphinlfenaa.XValue
end

section
namespace Go.Proofs.Ytalnlphinlfenaa.ValueAlive
set_option linter.unusedVariables false
set_option linter.unusedSimpArgs false
open Go.RowKit Go.Proofs.Ytalnlphinlfenaa.S Go.Proofs.Ytalnlphinlfenaa.XNum Go.Proofs.Ytalnlphinlfenaa.XWide Go.Proofs.Ytalnlphinlfenaa.Rnd Go.Proofs.Ytalnlphinlfenaa.XMdiv Go.Proofs.Ytalnlphinlfenaa.XRate Go.Proofs.Ytalnlphinlfenaa.XValue Go.Proofs.YtalnlphinlfenaaW.PrintWords

theorem alive {k : Nat} (hk : 700 ≤ k) : lombardlaw09_alive.f k = some true := by
  have e1 : of 50000000000 [105] = (100, 0) := by decide +kernel
  have e2 : all 100000000000 [10, 110] = ([100, 100, 0], 0) := by decide +kernel
  unfold lombardlaw09_alive.f
  rw [of_f hk, all_f hk, e1, e2]
  obtain ⟨k, rfl⟩ : ∃ k', k = k' + 4 := ⟨k - 4, by omega⟩
  have s : lombardref01_Same.f (k + 4) [100, 100, 0] [100, 100, 0] = some true := by kernel_rfl
  rw [Option.bind_some, Option.bind_some]
  dsimp only
  rw [if_pos rfl, if_pos rfl, if_pos rfl, s]
  rfl
end Go.Proofs.Ytalnlphinlfenaa.ValueAlive
end

section
namespace Go.Proofs.Ytalnlphinlfenaa.Pure
set_option linter.unusedVariables false
set_option linter.unusedSimpArgs false
open Go.RowKit Go.Proofs.Ytalnlphinlfenaa.S Go.Proofs.Ytalnlphinlfenaa.XNum Go.Proofs.Ytalnlphinlfenaa.XBits Go.Proofs.Ytalnlphinlfenaa.XWide Go.Proofs.Ytalnlphinlfenaa.Rnd Go.Proofs.Ytalnlphinlfenaa.XMdiv Go.Proofs.Ytalnlphinlfenaa.XRate Go.Proofs.Ytalnlphinlfenaa.XSum Go.Proofs.Ytalnlphinlfenaa.XValue Go.Proofs.YtalnlphinlfenaaW.PrintWords Go.Proofs.YtalnlphinlfenaaW.PrintLast Go.Proofs.YtalnlphinlfenaaW.PrintMore

theorem disc_split {r s1 s2 s3 n : Int} (h0 : 0 ≤ r) (hn : 0 ≤ n) (h1 : s1 - s2 - s3 ≤ n) : disc r s1 - disc r s2 - disc r s3 ≤ n + 1 := by
  unfold disc
  obtain ⟨a1, a2, _⟩ := near_spec (A := s1 * 1000000000000) (b := 1000000000000 + r) (by omega)
  obtain ⟨b1, b2, _⟩ := near_spec (A := s2 * 1000000000000) (b := 1000000000000 + r) (by omega)
  obtain ⟨c1, c2, _⟩ := near_spec (A := s3 * 1000000000000) (b := 1000000000000 + r) (by omega)
  generalize near (s1 * 1000000000000) (1000000000000 + r) = x at *
  generalize near (s2 * 1000000000000) (1000000000000 + r) = y at *
  generalize near (s3 * 1000000000000) (1000000000000 + r) = z at *
  by_cases c : x - y - z ≤ n + 1
  · exact c
  have g : (1000000000000 + r) * (n + 2) ≤ (1000000000000 + r) * (x - y - z) := Int.mul_le_mul_of_nonneg_left (by omega) (by omega)
  have p := Int.mul_nonneg h0 hn
  have e : (1000000000000 + r) * n = 1000000000000 * n + r * n := Int.add_mul _ _ _
  rw [Int.mul_add, Int.mul_sub, Int.mul_sub, e] at g
  generalize (1000000000000 + r) * x = X at *
  generalize (1000000000000 + r) * y = Y at *
  generalize (1000000000000 + r) * z = Z at *
  generalize r * n = P at *
  omega
theorem disc_neg {r s : Int} (h0 : 0 ≤ r) : disc r (-s) = -disc r s := by
  unfold disc
  rw [Int.neg_mul, near_neg (by omega)]
theorem adds {r : Int} (hr : mayR r) (h0 : 0 ≤ r) (a b : Nat → Int) (ha : ∀ j, -1000000000 ≤ a j ∧ a j ≤ 1000000000) (hb : ∀ j, -1000000000 ≤ b j ∧ b j ≤ 1000000000) : ∀ (js : List Nat), js.length ≤ 100 →
    -(js.length : Int) ≤ (wv r (js.map fun j => a j + b j)).1 - (wv r (js.map a)).1 - (wv r (js.map b)).1 ∧ (wv r (js.map fun j => a j + b j)).1 - (wv r (js.map a)).1 - (wv r (js.map b)).1 ≤ js.length ∧ (wv r (js.map fun j => -a j)).1 = -(wv r (js.map a)).1 := by
  have ok : ∀ (f : Nat → Int), (∀ j, -2000000000 ≤ f j ∧ f j ≤ 2000000000) → ∀ (js : List Nat), js.length ≤ 100 → (wv r (js.map f)).2 = 0 ∧ ∀ x ∈ js.map f, mayM x := fun f hf js hl => by
    have hx : ∀ x ∈ js.map f, -2000000000 ≤ x ∧ x ≤ 2000000000 := fun x hx => by
      obtain ⟨j, _, rfl⟩ := List.mem_map.1 hx
      exact hf j
    exact ⟨(wv_small hr h0 (M := 2000000000) (by omega) (by omega) (by rw [List.length_map]; omega) hx).1, fun x h => ⟨by have := hx x h; omega, by have := hx x h; omega⟩⟩
  intro js
  induction js with
  | nil => intro _; exact ⟨by show -(0 : Int) ≤ 0 - 0 - 0; omega, by show (0 : Int) - 0 - 0 ≤ 0; omega, rfl⟩
  | cons j js ih =>
    intro hl
    obtain ⟨i1, i2, i3⟩ := ih (by rw [List.length_cons] at hl; omega)
    have st : ∀ (f : Nat → Int), (∀ j, -2000000000 ≤ f j ∧ f j ≤ 2000000000) → (wv r ((j :: js).map f)).1 = disc r (f j + (wv r (js.map f)).1) := fun f hf => by
      obtain ⟨k1, k2⟩ := ok f hf (j :: js) hl
      exact (wv_step hr k2 k1).1
    rw [st (fun j => a j + b j) (fun j => ⟨by have := ha j; have := hb j; omega, by have := ha j; have := hb j; omega⟩), st a (fun j => ⟨by have := ha j; omega, by have := ha j; omega⟩), st b (fun j => ⟨by have := hb j; omega, by have := hb j; omega⟩),
      st (fun j => -a j) (fun j => ⟨by have := ha j; omega, by have := ha j; omega⟩)]
    rw [i3]
    generalize (wv r (js.map fun j => a j + b j)).1 = S at *
    generalize (wv r (js.map a)).1 = A at *
    generalize (wv r (js.map b)).1 = B at *
    generalize a j = x at *
    generalize b j = y at *
    rw [List.length_cons]
    have u1 := disc_split (r := r) (s1 := x + y + S) (s2 := x + A) (s3 := y + B) (n := js.length) h0 (by omega) (by omega)
    have u2 := disc_split (r := r) (s1 := -(x + y + S)) (s2 := -(x + A)) (s3 := -(y + B)) (n := js.length) h0 (by omega) (by omega)
    rw [disc_neg h0, disc_neg h0, disc_neg h0] at u2
    refine ⟨by omega, by omega, ?_⟩
    rw [show -x + -A = -(x + A) by omega, disc_neg h0]
def cb (x : Int) : Int := mn (mx x (-1000000000)) 1000000000
theorem cb_in (x : Int) : -1000000000 ≤ cb x ∧ cb x ≤ 1000000000 := by unfold cb mn mx; split <;> split <;> omega
theorem adds_l0 {l m : List Int} {r : Int} (hr0 : 0 ≤ r) (hr1 : r ≤ 1000000000000) (n : Nat) (hn : n ≤ 60) (h1 : n ≤ l.length) (h2 : n ≤ m.length) : ∀ (d i k : Nat), i + d = n → d + 900 ≤ k →
    lombardlaw09_ValueAdds.l0 k l m r ((List.range i).map fun (j : Nat) => cb (rd l (j : Int))) ((List.range i).map fun (j : Nat) => cb (rd m (j : Int))) ((List.range i).map fun (j : Nat) => cb (rd l (j : Int)) + cb (rd m (j : Int))) ((List.range i).map fun (j : Nat) => -cb (rd l (j : Int))) (n : Int) (i : Int) = some true := by
  intro d
  induction d with
  | zero =>
    intro i k h hk
    obtain ⟨k, rfl⟩ : ∃ k', k = k' + 1 := ⟨k - 1, by omega⟩
    obtain rfl : i = n := by omega
    have mr : mayR r := ⟨by omega, by omega⟩
    obtain ⟨u1, u2, u3⟩ := adds mr hr0 (fun (j : Nat) => cb (rd l (j : Int))) (fun (j : Nat) => cb (rd m (j : Int))) (fun j => cb_in _) (fun j => cb_in _) (List.range i) (by rw [List.length_range]; omega)
    have ok : ∀ (f : Nat → Int), (∀ j, -2000000000 ≤ f j ∧ f j ≤ 2000000000) → of r ((List.range i).map f) = ((wv r ((List.range i).map f)).1, 0) ∧ -120000000000 ≤ (wv r ((List.range i).map f)).1 ∧ (wv r ((List.range i).map f)).1 ≤ 120000000000 := fun f hf => by
      have hx : ∀ x ∈ (List.range i).map f, -2000000000 ≤ x ∧ x ≤ 2000000000 := fun x hx => by
        obtain ⟨j, _, rfl⟩ := List.mem_map.1 hx
        exact hf j
      have hlen : ((List.range i).map f).length = i := by rw [List.length_map, List.length_range]
      obtain ⟨w1, w2, w3⟩ := wv_small mr hr0 (M := 2000000000) (by omega) (by omega) (by rw [hlen]; omega) hx
      rw [hlen] at w2 w3
      rw [of_ok (by rw [hlen]; omega) (fun x h => ⟨by have := hx x h; omega, by have := hx x h; omega⟩) mr, if_pos w1]
      exact ⟨rfl, by omega, by omega⟩
    have oa := ok (fun (j : Nat) => cb (rd l (j : Int))) (fun j => ⟨by have := cb_in (rd l (j : Int)); omega, by have := cb_in (rd l (j : Int)); omega⟩)
    have ob := ok (fun (j : Nat) => cb (rd m (j : Int))) (fun j => ⟨by have := cb_in (rd m (j : Int)); omega, by have := cb_in (rd m (j : Int)); omega⟩)
    have oc := ok (fun (j : Nat) => cb (rd l (j : Int)) + cb (rd m (j : Int))) (fun j => ⟨by have := cb_in (rd l (j : Int)); have := cb_in (rd m (j : Int)); omega, by have := cb_in (rd l (j : Int)); have := cb_in (rd m (j : Int)); omega⟩)
    have od := ok (fun (j : Nat) => -cb (rd l (j : Int))) (fun j => ⟨by have := cb_in (rd l (j : Int)); omega, by have := cb_in (rd l (j : Int)); omega⟩)
    unfold lombardlaw09_ValueAdds.l0
    rw [if_neg (by omega), of_f (by omega), Option.bind_some, of_f (by omega), Option.bind_some, of_f (by omega), Option.bind_some, of_f (by omega), Option.bind_some, oa.1, ob.1, oc.1, od.1]
    dsimp only
    rw [List.length_map, List.length_range]
    rw [List.length_range] at u1 u2
    rw [u3]
    have oa2 := oa.2
    have ob2 := ob.2
    have oc2 := oc.2
    clear oa ob oc od ok u3
    generalize (wv r ((List.range i).map fun (j : Nat) => cb (rd l (j : Int)) + cb (rd m (j : Int)))).1 = S at *
    generalize (wv r ((List.range i).map fun (j : Nat) => cb (rd l (j : Int)))).1 = A at *
    generalize (wv r ((List.range i).map fun (j : Nat) => cb (rd m (j : Int)))).1 = B at *
    rw [if_pos rfl, if_pos rfl, if_pos rfl, if_pos rfl, w64 (n := -A) (by omega) (by omega), if_pos rfl, w64 (n := S - A) (by omega) (by omega), w64 (n := S - A - B) (by omega) (by omega), w64 (n := 2 * (i : Int)) (by omega) (by omega), w64 (n := (-2) * (i : Int)) (by omega) (by omega),
      if_pos (by omega), decide_eq_true (by omega)]
  | succ d ih =>
    intro i k h hk
    obtain ⟨k, rfl⟩ : ∃ k', k = k' + 1 := ⟨k - 1, by omega⟩
    have e : ∀ f : Nat → Int, (List.range i).map f ++ [f i] = (List.range (i + 1)).map f := fun f => by rw [List.range_succ, List.map_append]; rfl
    have hlen : ∀ f : Nat → Int, ((List.range i).map f).length = i := fun f => by rw [List.length_map, List.length_range]
    unfold lombardlaw09_ValueAdds.l0
    rw [if_pos (by omega), if_pos (by omega), if_pos (by omega), if_pos (by omega), if_pos (by rw [hlen]; omega), if_pos (by rw [hlen]; omega), if_pos (by rw [hlen]; omega), if_pos (by rw [hlen]; omega), w64 (by omega) (by omega)]
    have g := ih (i + 1) k (by omega) (by omega)
    rw [← e, ← e, ← e, ← e] at g
    exact g
theorem ValueAdds : lombardlaw09_ValueAdds.Pure := by
  intro l m r _ _ _ _ _ _ _
  refine ⟨1100, ?_⟩
  unfold lombardlaw09_ValueAdds.f
  rw [ValueAlive.alive (by omega), Option.bind_some, if_pos rfl]
  by_cases c : l.length ≤ 60
  · rw [if_neg (by omega)]
    show lombardlaw09_ValueAdds.j0 (1099 + 1) l m r _ = some true
    rw [lombardlaw09_ValueAdds.j0]
    by_cases c2 : m.length ≤ 60
    · rw [decide_eq_false (by omega), if_neg (by simp)]
      have hr : 0 ≤ mn (mx r 0) 1000000000000 ∧ mn (mx r 0) 1000000000000 ≤ 1000000000000 := by unfold mn mx; split <;> split <;> omega
      obtain ⟨n, hn, hn1, hn2⟩ : ∃ n : Nat, mn (l.length : Int) (m.length : Int) = (n : Int) ∧ n ≤ l.length ∧ n ≤ m.length := by
        unfold mn
        split
        · exact ⟨m.length, rfl, by omega, by omega⟩
        · exact ⟨l.length, rfl, by omega, by omega⟩
      rw [hn]
      exact adds_l0 hr.1 hr.2 n (by omega) hn1 hn2 n 0 1099 (by omega) (by omega)
    · rw [decide_eq_true (by omega), if_pos rfl]
  · rw [if_pos (by omega)]
    show lombardlaw09_ValueAdds.j0 (1099 + 1) l m r true = some true
    rw [lombardlaw09_ValueAdds.j0, if_pos rfl]

end Go.Proofs.Ytalnlphinlfenaa.Pure
end

section
namespace Go.Proofs.YtalnlphinlfenaaW.PrintWords
open Go.ChangeShapes Go.WideShapes
/-- A row's slice of whole numbers is no longer than its weight allows. -/
theorem sized_ints {H : Type} {enc : TypeId × Value → H} {P : Program} {W : World} {base : Nat} {spare : Nat → Bool} {held : Bool} {t e : TypeId} {k : IntKind} {a : Option Addr} {len cap : Nat} {d : DataW H} {ps : List MemPlace} {ts : List TypeId} {ds : List (DataW H)} {j : Nat}
    (hsz : (DataW.weightsEach P ts ds).all (· ≤ reachBytes) = true) (ht : ts[j]? = some t) (hd : ds[j]? = some d) (hu : P.underlying t = some (.slice e)) (he : P.underlying e = some (.int k)) (hc : P.cellsOf e = 1) {B : Nat} (hB : P.bytesOf e = B)
    (h : DataW.Trod enc P W base spare held t (.slice a len cap) d ps) : len * B ≤ 140737488351232 := by
  obtain ⟨fuel, hf⟩ := h
  rcases open_ints hu he hc hf with ⟨hcs, _⟩ | ⟨x, l, c, zs, hcs, _, hl, _, hz, hx, _, _⟩
  · simp [Value.cells] at hcs
    obtain ⟨rfl, rfl, rfl⟩ := hcs
    simp
  · simp [Value.cells] at hcs
    obtain ⟨rfl, rfl, rfl⟩ := hcs
    obtain ⟨hx, _⟩ := Prod.mk.inj hx
    subst hx
    have z := sized_slice hsz ht hd hu
    rw [hB] at z
    have hl2 : len ≤ zs.length := by
      rw [hz]
      split
      · exact hl
      · exact Nat.le_refl _
    have h1 : (lits (H := H) k (zs.take len)).length + (lits (H := H) k (zs.drop len)).length = zs.length := by
      simp [lits]
      omega
    rw [h1] at z
    exact Nat.le_trans (Nat.mul_le_mul_right _ hl2) z
end Go.Proofs.YtalnlphinlfenaaW.PrintWords
end

section
namespace Go.Proofs.Ytalnlphinlfenaa.valueAdds
open Go.ChangeShapes Go.WideShapes Go.ChangeAt Go.RowKit
open Go.ChangeMaps (open_string shut_string)
set_option linter.unusedVariables false
theorem own : ownKnob Try.prog.godebug = none := by kernel_rfl
theorem laidOut : laidOutB Try.prog = true := by kernel_rfl
def IsRow (k : IntKind) (w : World) (a : Option Addr) (len cap : Nat) (zs : List Int) : Prop :=
  (a = none ∧ len = 0 ∧ cap = 0 ∧ zs = []) ∨
  ∃ x, a = some x ∧ len ≤ cap ∧ cap ≤ maxLen ∧ zs.length = cap ∧ (∀ i, i < zs.length → w.cell? (x.add i) = some (.int k (zs.getD i 0))) ∧ ∀ n ∈ zs, (Lit.int k n).wf = true
set_option maxRecDepth 100000 in
theorem lifted (os : Os) (started : os.Started) (H : Type) (enc : TypeId × Value → H) :
    ReturnsInHanded {} Try.checked os 6 .any (Rows.valueAddsSpec.pre6 enc Try.prog Try.f6 Rows.valueAddsRow.domain false) (Rows.valueAddsSpec.post enc Try.prog Try.f6 false true false false) := by
  refine returnsInHanded_of_change_sized (C := Try.checked) own started (by kernel_rfl) Try.func6
    (ChangeSpec.witness6 (enc := enc) (C := Try.checked) false ⟨#[], #[.slice none 0 0, .slice none 0 0, .int .i64 0], []⟩ 8 (by kernel_rfl) (by kernel_rfl) (by kernel_rfl) (by kernel_rfl)) ?_
  intro W base args ds gs before hval0 hW hcnd hsz0 _
  have hsz : (DataW.weightsEach Try.prog (Try.f6.params.toList ++ Rows.valueAddsSpec.plain.varTypes Try.prog) (ds ++ gs)).all (· ≤ reachBytes) = true := hsz0
  have hval : ∀ (j : Nat) t v, Try.f6.params[j]? = some t → args[j]? = some v → Value.okWide Try.prog W .any base t v := hval0
  have hW' := hW
  obtain ⟨p, q, hA0, hV, rfl, hfz, hnd⟩ := hW
  have hA : DataW.TrodAll enc Try.prog W 0 (fun _ => true) true Try.f6.params.toList args.toList ds p := hA0
  rw [Try.params6] at hA hval hsz
  obtain ⟨v0, vs0, d0, ds0, p0, q0, hargs, rfl, rfl, h0, r0⟩ := trodAll_cons hA
  obtain ⟨v1, vs1, d1, ds1, p1, q1, rfl, rfl, rfl, h1, r1⟩ := trodAll_cons r0
  obtain ⟨v2, vs2, d2, ds2, p2, q2, rfl, rfl, rfl, h2, r2⟩ := trodAll_cons r1
  obtain ⟨rfl, rfl, rfl⟩ := trodAll_nil r2
  obtain rfl : args = #[v0, v1, v2] := by cases args; simp_all
  obtain ⟨rfl, rfl⟩ := trodVars_none hV
  obtain ⟨a0, len0, cap0, rfl⟩ := okWide_slice Try.underlying22 (hval 0 22 v0 rfl rfl)
  have k0 := h0
  have lt0 : ∀ x ∈ p0, x.block < W.heap.size := by obtain ⟨m, hm⟩ := k0; exact DataW.trod_lt m _ _ _ hm
  obtain ⟨z0, w0⟩ : ∃ zs, IsRow .i64 W a0 len0 cap0 zs := by
    obtain ⟨fuel, hf⟩ := h0
    rcases open_ints Try.underlying22 Try.underlying2 (by kernel_rfl) hf with ⟨hcs, _⟩ | ⟨x, l, c, zs, hcs, _, hl, hm, hz, _, hcell, hwz⟩
    · simp [Value.cells] at hcs
      obtain ⟨rfl, rfl, rfl⟩ := hcs
      exact ⟨[], .inl ⟨rfl, rfl, rfl, rfl⟩⟩
    · simp [Value.cells] at hcs
      obtain ⟨rfl, rfl, rfl⟩ := hcs
      exact ⟨zs, .inr ⟨_, rfl, hl, hm, by simpa using hz, hcell, hwz⟩⟩
  have y0 : len0 * 8 ≤ 140737488351232 := Go.Proofs.YtalnlphinlfenaaW.PrintWords.sized_ints hsz (j := 0) (t := 22) rfl rfl Try.underlying22 Try.underlying2 (by kernel_rfl) (by kernel_rfl) h0
  obtain ⟨a1, len1, cap1, rfl⟩ := okWide_slice Try.underlying22 (hval 1 22 v1 rfl rfl)
  have k1 := h1
  have lt1 : ∀ x ∈ p1, x.block < W.heap.size := by obtain ⟨m, hm⟩ := k1; exact DataW.trod_lt m _ _ _ hm
  obtain ⟨z1, w1⟩ : ∃ zs, IsRow .i64 W a1 len1 cap1 zs := by
    obtain ⟨fuel, hf⟩ := h1
    rcases open_ints Try.underlying22 Try.underlying2 (by kernel_rfl) hf with ⟨hcs, _⟩ | ⟨x, l, c, zs, hcs, _, hl, hm, hz, _, hcell, hwz⟩
    · simp [Value.cells] at hcs
      obtain ⟨rfl, rfl, rfl⟩ := hcs
      exact ⟨[], .inl ⟨rfl, rfl, rfl, rfl⟩⟩
    · simp [Value.cells] at hcs
      obtain ⟨rfl, rfl, rfl⟩ := hcs
      exact ⟨zs, .inr ⟨_, rfl, hl, hm, by simpa using hz, hcell, hwz⟩⟩
  have y1 : len1 * 8 ≤ 140737488351232 := Go.Proofs.YtalnlphinlfenaaW.PrintWords.sized_ints hsz (j := 1) (t := 22) rfl rfl Try.underlying22 Try.underlying2 (by kernel_rfl) (by kernel_rfl) h1
  obtain ⟨a2, rfl, rfl, rfl, w2⟩ := open_int Try.underlying2 (hval 2 2 v2 rfl rfl) h2
  clear hA0 hval0 hsz0 hsz
  refine (S.lombardlaw09_ValueAdds.walk Pure.ValueAdds a0 len0 cap0 z0 a1 len1 cap1 z1 a2 W w0 y0 w1 y1 w2).mono fun e W' ⟨he, bel⟩ => ?_
  subst he
  exact ⟨_, rfl, _, _, _, [], _, [], hW', trodAll_mk1 (shut_bool Try.underlying4 _), (trodAll_cons_mk (Below.trod laidOut (by kernel_rfl) (of_decide_eq_true (by kernel_rfl)) k0 bel lt0) (trodAll_cons_mk (Below.trod laidOut (by kernel_rfl) (of_decide_eq_true (by kernel_rfl)) k1 bel lt1) (trodAll_cons_mk (shut_int Try.underlying2 w2) trodAll_mk0))), rfl, bel.frame _, fun h => by cases h⟩
theorem over : Rows.valueAddsRow.holds Try.pinned (OpenSpec.ofChange Rows.valueAddsSpec) :=
  OpenClaim.holds_of_wide 6 Try.f6 rfl rfl rfl rfl rfl rfl rfl ⟨rfl, rfl, rfl, rfl, rfl⟩ rfl rfl rfl rfl rfl (by kernel_rfl) Try.func6 (by kernel_rfl)
    (of_decide_eq_true (by kernel_rfl)) (by unfold Func.isWrapper; first | (rw [if_pos (by decide +kernel)]; kernel_rfl) | (rw [if_neg (by decide +kernel)]; exact ⟨rfl, rfl⟩))
    (fun os started H enc _ => lifted os started H enc)
theorem proved : Rows.ValueAddsSaid := over
#print axioms proved
end Go.Proofs.Ytalnlphinlfenaa.valueAdds
namespace Go.Proofs.Ytalnlphinlfenaa
/-- The row, under a short name, for the claim. -/
theorem valueAdds_holds : Rows.ValueAddsSaid := valueAdds.proved
end Go.Proofs.Ytalnlphinlfenaa
end
