/- Texts of the statement EirMoreSaid, laid together. Conditions: none beyond those that each theorem names. -/
import Derived.Test.YtjgleaakgbnjgaaSx0
import Derived.Test.YtjgleaakgbnjgaaSxMoneyAdd
import Derived.Test.YtjgleaakgbnjgaaSxRateDiscount
import Derived.Test.YtjgleaakgbnjgaaXWide
import Derived.Test.YtjgleaakgbnjgaaSxRateMay
import Derived.Test.YtjgleaakgbnjgaaSxWideMulDiv
import Derived.Handy
import Derived.Test.YtjgleaakgbnjgaaSxMoneyTold
import Derived.Test.YtjgleaakgbnjgaaSxSlicesReverseInt64Int64
import Derived.RangeFuncNested
import Derived.RangeFuncBox
import Derived.RangeFuncLeaves
import Derived.RangeFuncCalls
import Derived.Shelf.Abstract
import Derived.OwnWalkIn
import Derived.TacticsInMore
import Derived.LoopNIn
import Derived.LoopIn
import Derived.Maps.AppendAt
import Derived.RegionIn
import Derived.OrdersHeld
set_option linter.unusedSimpArgs false
set_option linter.unusedVariables false
section
namespace Go.Proofs.Ytjgleaakgbnjgaa.S
open Go.RowKit Go.Proofs.YtjgleaakgbnjgaaW.PrintWords Go.Proofs.YtjgleaakgbnjgaaW.PrintLast Go.Proofs.YtjgleaakgbnjgaaW.PrintMore
attribute [local go_sem] max2_int min2_int max_two min_two max_three min_three max_four min_four
attribute [local go_sem] XWalk.cell2
mutual
def eir_may.j0 : Nat → List Int → Bool → Option (Bool)
 | 0, _, _ => none
 | k + 1, x1, x23 => if x23 = true then (some false) else (eir_may.l0 k false x1 (x1.length : Int) 0)
def eir_may.l0 : Nat → Bool → List Int → Int → Int → Option (Bool)
 | 0, _, _, _, _ => none
 | k + 1, x5, x24, x25, x26 => if x26 < x25 then (if 0 ≤ x26 then (if x26 < (x24.length : Int) then (if (rd x24 x26) < 0 then (some false) else (if (rd x24 x26) > 10000000000000 then (some false) else (if x5 = true then (eir_may.l0 k true x24 x25 (wrap64 (x26 + 1))) else (eir_may.l0 k (decide ((rd x24 x26) > 0)) x24 x25 (wrap64 (x26 + 1)))))) else (none)) else (none)) else (some x5)
end
def eir_may.f (k : Nat) (a0 : Int) (l1 : List Int) : Option (Bool) := if (l1.length : Int) = 0 then (eir_may.j0 k l1 true) else (if (l1.length : Int) > 600 then (eir_may.j0 k l1 true) else (if a0 < 1 then (eir_may.j0 k l1 true) else (eir_may.j0 k l1 (decide (a0 > 10000000000000)))))
set_option maxHeartbeats 8000000 in
set_option maxRecDepth 100000 in
theorem eir_may.calls (k : Nat) (a0 : Int) (A1 : Option Addr) (c1 : Nat) (l1 : List Int) (r : Bool) (w : World) (hr1 : Kd.C (Kd.int .i64) w A1 l1.length l1) (hc1 : l1.length ≤ c1) (h : eir_may.f k a0 l1 = some r) :
  Calls Star.prog 22 #[.int .i64 a0, .slice A1 l1.length c1] w fun e w' => e = .returned (.bool r) ∧ Drawn0 w w' := by
 have HR1 := Aside0.mk hr1
 have HC1 := Aside0.mk hc1
 clear hr1 hc1
 have H : (if (l1.length : Int) = 0 then (eir_may.j0 k l1 true) else (if (l1.length : Int) > 600 then (eir_may.j0 k l1 true) else (if a0 < 1 then (eir_may.j0 k l1 true) else (eir_may.j0 k l1 (decide (a0 > 10000000000000)))))) = some r := h
 clear h
 have HC3 := Aside0.mk H
 clear H
 go_enter Star.func22, Try.ntmps22
 go_upto_region 1 with (fail)
 go_cut [23] (fun v23 wc => ∃ (kq : Nat) (x23_2 : Bool), v23 = .bool x23_2 ∧ Aside0 (eir_may.j0 kq l1 x23_2 = some r) ∧ Aside0 (kq ≤ k) ∧ Drawn0 w wc)
 case first =>
  have H := HC3.out
  clear HC3
  by_cases c4 : (l1.length : Int) = 0
  ·rw [if_pos c4] at H
   have c4b0 : ((l1.length : Int) == 0) = true := beq_iff_eq.mpr c4
   have c4b1 : ((l1.length : Int) != 0) = false := bne_eq_false_iff_eq.mpr c4
   clear c4
   (first | rw [c4b0] | (simp only [i64_w, i32_w]; rw [c4b0]) | skip)
   have H' := Aside0.mk H
   clear H
   go_wp2
   go_meet
   case rel => exact ⟨_, (true), (by first | rfl | (simp; done) | (simp [*]; done)), H', ⟨by first | omega | exact Nat.le_refl _⟩, by repeat (first | exact Drawn0.refl _ | apply Drawn0.step)⟩
  ·rw [if_neg c4] at H
   have c4b0 : ((l1.length : Int) == 0) = false := beq_eq_false_iff_ne.mpr c4
   have c4b1 : ((l1.length : Int) != 0) = true := bne_iff_ne.mpr c4
   have c4b2 : ¬ (l1 = []) := fun h_ => c4 (by rw [h_]; rfl)
   (first | rw [c4b0] | (simp only [i64_w, i32_w]; rw [c4b0]) | skip)
   by_cases c5 : (l1.length : Int) > 600
   ·rw [if_pos c5] at H
    have c5b0 : decide (600 < (l1.length : Int)) = true := decide_eq_true c5
    have c5b1 : decide (600 < l1.length) = true := decide_eq_true (by omega)
    clear c5
    have H' := Aside0.mk H
    clear H
    go_wp2
    go_meet
    case rel => exact ⟨_, (true), (by first | rfl | (simp; done) | (simp [*]; done)), H', ⟨by first | omega | exact Nat.le_refl _⟩, by repeat (first | exact Drawn0.refl _ | apply Drawn0.step)⟩
   ·rw [if_neg c5] at H
    have c5b0 : decide (600 < (l1.length : Int)) = false := decide_eq_false c5
    have c5b1 : decide (600 < l1.length) = false := decide_eq_false (by omega)
    clear c5
    by_cases c6 : a0 < 1
    ·rw [if_pos c6] at H
     have c6b0 : decide (a0 < 1) = true := decide_eq_true c6
     clear c6
     have H' := Aside0.mk H
     clear H
     go_wp2
     go_meet
     case rel => exact ⟨_, (true), (by first | rfl | (simp; done) | (simp [*]; done)), H', ⟨by first | omega | exact Nat.le_refl _⟩, by repeat (first | exact Drawn0.refl _ | apply Drawn0.step)⟩
    ·rw [if_neg c6] at H
     have c6b0 : decide (a0 < 1) = false := decide_eq_false c6
     clear c6
     have H' := Aside0.mk H
     clear H
     go_wp2
     go_meet
     case rel => exact ⟨_, (decide (a0 > 10000000000000)), (by first | rfl | (simp; done) | (simp [*]; done)), H', ⟨by first | omega | exact Nat.le_refl _⟩, by repeat (first | exact Drawn0.refl _ | apply Drawn0.step)⟩
 case rest =>
  clear HC3
  try clear c1; try clear c2; try clear p2; try clear c4; try clear c4b0; try clear c4b1; try clear c4b2; try clear c5; try clear c5b0; try clear c5b1; try clear c6; try clear c6b0
  obtain ⟨kq, x23_2, rfl, HA, HJ2, ⟨mc2, rfl⟩⟩ := hcut
  cases kq with
  | zero => exact absurd HA.out (by simp [eir_may.j0])
  | succ kj2 =>
   have H := HA.out
   clear HA
   simp only [eir_may.j0] at H
   by_cases c7 : x23_2 = true
   ·subst c7
    have H1 : (some false) = some r := by rw [if_pos rfl] at H; exact H
    clear H
    have H := H1
    clear H1
    obtain rfl := Option.some.inj H
    go_wp2
    go_ret
    exact ⟨by first | rfl | (simp; done) | (simp [*]; done), by repeat (first | exact Drawn0.refl _ | apply Drawn0.step)⟩
   ·replace c7 := Bool.eq_false_iff.mpr c7
    subst c7
    have H1 : (eir_may.l0 kj2 false l1 (l1.length : Int) 0) = some r := by rw [if_neg (show ¬ (false = true) by decide)] at H; exact H
    clear H
    have H := H1
    clear H1
    have H' := Aside0.mk H
    clear H
    go_wp2
    go_loopg [5, 26] kj2 (fun kq v5 v26 w' => ∃ (x5_2 : Bool) (x26_2 : Int), v5 = .bool x5_2 ∧ v26 = .int .i64 x26_2 ∧ Aside0 (eir_may.l0 kq x5_2 l1 (l1.length : Int) x26_2 = some r) ∧ Aside0 (kq ≤ kj2) ∧ Drawn0 w w')
    case atStart => exact ⟨(false), (0), (by first | rfl | (simp; done) | (simp [*]; done)), (by first | rfl | (simp; done) | (simp [*]; done)), H', ⟨Nat.le_refl _⟩, by repeat (first | exact Drawn0.refl _ | apply Drawn0.step)⟩
    case round =>
     clear H'
     try clear c1; try clear c2; try clear p2; try clear c4; try clear c4b0; try clear c4b1; try clear c4b2; try clear c5; try clear c5b0; try clear c5b1; try clear c6; try clear c6b0; try clear c7; try clear p2
     obtain ⟨x5_2, x26_2, rfl, rfl, HA, HK2, ⟨m2, rfl⟩⟩ := hrel
     cases gk with
     | zero => exact absurd HA.out (by simp [eir_may.l0])
     | succ k2 =>
      have H := HA.out
      clear HA
      simp only [eir_may.l0] at H
      by_cases c8 : x26_2 < (l1.length : Int)
      ·rw [if_pos c8] at H
       have c8b0 : decide (x26_2 < (l1.length : Int)) = true := decide_eq_true c8
       clear c8
       by_cases c9 : 0 ≤ x26_2
       ·rw [if_pos c9] at H
        have c9b0 : decide (0 ≤ x26_2) = true := decide_eq_true c9
        clear c9
        by_cases c10 : x26_2 < (l1.length : Int)
        ·rw [if_pos c10] at H
         have c10b0 : decide (x26_2 < (l1.length : Int)) = true := decide_eq_true c10
         clear c10
         have HC11 := Aside0.mk H
         clear H
         have p101 : 0 ≤ (x26_2 : Int) := of_decide_eq_true (by first | (with_reducible assumption) | assumption)
         have q101 : x26_2 < (l1.length : Int) := of_decide_eq_true (by first | (with_reducible assumption) | assumption)
         obtain ⟨ad101, e101, hx101_0⟩ := Kd.at_int HR1.out x26_2 p101 q101
         cases e101
         replace p101 := eq_true p101
         replace q101 := eq_true q101
         go_upto_region 7 with (fail)
         have H := HC11.out
         clear HC11
         by_cases c12 : (rd l1 x26_2) < 0
         ·rw [if_pos c12] at H
          have c12b0 : decide ((rd l1 x26_2) < 0) = true := decide_eq_true c12
          clear c12
          obtain rfl := Option.some.inj H
          go_wp2
          go_ret
          exact ⟨by first | rfl | (simp; done) | (simp [*]; done), by repeat (first | exact Drawn0.refl _ | apply Drawn0.step)⟩
         ·rw [if_neg c12] at H
          have c12b0 : decide ((rd l1 x26_2) < 0) = false := decide_eq_false c12
          clear c12
          by_cases c13 : (rd l1 x26_2) > 10000000000000
          ·rw [if_pos c13] at H
           have c13b0 : decide (10000000000000 < (rd l1 x26_2)) = true := decide_eq_true c13
           clear c13
           obtain rfl := Option.some.inj H
           go_wp2
           go_ret
           exact ⟨by first | rfl | (simp; done) | (simp [*]; done), by repeat (first | exact Drawn0.refl _ | apply Drawn0.step)⟩
          ·rw [if_neg c13] at H
           have c13b0 : decide (10000000000000 < (rd l1 x26_2)) = false := decide_eq_false c13
           clear c13
           by_cases c14 : x5_2 = true
           ·subst c14
            have H1 : (eir_may.l0 k2 true l1 (l1.length : Int) (wrap64 (x26_2 + 1))) = some r := by rw [if_pos rfl] at H; exact H
            clear H
            have H := H1
            clear H1
            have H' := Aside0.mk H
            clear H
            go_wp2
            go_roundg k2
            case measure => have := HJ2.out; have := HK2.out; omega
            case rel => exact ⟨(true), (wrap64 (x26_2 + 1)), (by first | rfl | (simp; done) | (simp [*]; done)), (by first | rfl | (simp; done) | (simp [*]; done)), H', ⟨by have := HJ2.out; have := HK2.out; omega⟩, by repeat (first | exact Drawn0.refl _ | apply Drawn0.step)⟩
           ·replace c14 := Bool.eq_false_iff.mpr c14
            subst c14
            have H1 : (eir_may.l0 k2 (decide ((rd l1 x26_2) > 0)) l1 (l1.length : Int) (wrap64 (x26_2 + 1))) = some r := by rw [if_neg (show ¬ (false = true) by decide)] at H; exact H
            clear H
            have H := H1
            clear H1
            have H' := Aside0.mk H
            clear H
            go_wp2
            go_roundg k2
            case measure => have := HJ2.out; have := HK2.out; omega
            case rel => exact ⟨(decide ((rd l1 x26_2) > 0)), (wrap64 (x26_2 + 1)), (by first | rfl | (simp; done) | (simp [*]; done)), (by first | rfl | (simp; done) | (simp [*]; done)), H', ⟨by have := HJ2.out; have := HK2.out; omega⟩, by repeat (first | exact Drawn0.refl _ | apply Drawn0.step)⟩
        ·rw [if_neg c10] at H
         exact absurd H (by simp)
       ·rw [if_neg c9] at H
        exact absurd H (by simp)
      ·rw [if_neg c8] at H
       have c8b0 : decide (x26_2 < (l1.length : Int)) = false := decide_eq_false c8
       clear c8
       obtain rfl := Option.some.inj H
       go_wp2
       go_ret
       exact ⟨by first | rfl | (simp; done) | (simp [*]; done), by repeat (first | exact Drawn0.refl _ | apply Drawn0.step)⟩
end Go.Proofs.Ytjgleaakgbnjgaa.S
end

section
namespace Go.Proofs.Ytjgleaakgbnjgaa.S
open Go.RowKit Go.Proofs.YtjgleaakgbnjgaaW.PrintWords Go.Proofs.YtjgleaakgbnjgaaW.PrintLast Go.Proofs.YtjgleaakgbnjgaaW.PrintMore
attribute [local go_sem] max2_int min2_int max_two min_two max_three min_three max_four min_four
attribute [local go_sem] XWalk.cell2
def money_May.f (a0 : Int) : Option (Bool) := if a0 ≥ (-10000000000000) then (some (decide (a0 ≤ 10000000000000))) else (some false)
set_option maxHeartbeats 8000000 in
set_option maxRecDepth 100000 in
theorem money_May.calls (a0 : Int) (r : Bool) (w : World) (h : money_May.f a0 = some r) :
  Calls Star.prog 59 #[.int .i64 a0] w fun e w' => e = .returned (.bool r) ∧ Drawn0 w w' := by
 have H : (if a0 ≥ (-10000000000000) then (some (decide (a0 ≤ 10000000000000))) else (some false)) = some r := h
 clear h
 by_cases c2 : a0 ≥ (-10000000000000)
 ·rw [if_pos c2] at H
  have c2b0 : decide ((-10000000000000) ≤ a0) = true := decide_eq_true c2
  clear c2
  obtain rfl := Option.some.inj H
  go_enter Star.func59, Try.ntmps59
  go_wp2
  go_ret
  exact ⟨by first | rfl | (simp; done) | (simp [*]; done), by repeat (first | exact Drawn0.refl _ | apply Drawn0.step)⟩
 ·rw [if_neg c2] at H
  have c2b0 : decide ((-10000000000000) ≤ a0) = false := decide_eq_false c2
  clear c2
  obtain rfl := Option.some.inj H
  go_enter Star.func59, Try.ntmps59
  go_wp2
  go_ret
  exact ⟨by first | rfl | (simp; done) | (simp [*]; done), by repeat (first | exact Drawn0.refl _ | apply Drawn0.step)⟩
end Go.Proofs.Ytjgleaakgbnjgaa.S
end

section
namespace Go.Proofs.Ytjgleaakgbnjgaa.S
open Go.RowKit Go.Proofs.YtjgleaakgbnjgaaW.PrintWords Go.Proofs.YtjgleaakgbnjgaaW.PrintLast Go.Proofs.YtjgleaakgbnjgaaW.PrintMore
attribute [local go_sem] max2_int min2_int max_two min_two max_three min_three max_four min_four
attribute [local go_sem] XWalk.cell2
def value_times_1.f (a0 : Int) : Option (Bool) := (money_May.f a0).bind fun t102 => (some (!t102))
set_option maxHeartbeats 8000000 in
set_option maxRecDepth 100000 in
theorem value_times_1.calls (a0 : Int) (r : Bool) (w : World) (h : value_times_1.f a0 = some r) :
  Calls Star.prog 58 #[.int .i64 a0] w fun e w' => e = .returned (.bool r) ∧ Drawn0 w w' := by
 have H : ((money_May.f a0).bind fun t102 => (some (!t102))) = some r := h
 clear h
 replace H := Option.bind_eq_some_iff.mp H
 obtain ⟨t102, A20, H⟩ := H
 replace H : (some (!t102)) = some r := H
 have A2 := Aside0.mk A20
 clear A20
 obtain rfl := Option.some.inj H
 go_enter Star.func58, Try.ntmps58
 go_wp2_with (first | ((with_reducible refine gate_callee (f := 59) rfl ?_); refine goesL_ (some 4) rfl rfl Star.func59 (by kernel_rfl) rfl #[.int .i64 a0] rfl (by (try simp only [List.map_toArray, List.map_cons, List.map_nil]); first | done | rfl | (simp only [List.length_drop, List.length_take]; rfl)) ?_; (with_reducible refine (money_May.calls a0 t102 _ A2.out).mono ?_); rintro e w' ⟨rfl, ⟨nd, rfl⟩⟩; refine ⟨_, rfl, ?_⟩))
 go_ret
 exact ⟨by first | rfl | (simp; done) | (simp [*]; done), by repeat (first | exact Drawn0.refl _ | apply Drawn0.step)⟩
end Go.Proofs.Ytjgleaakgbnjgaa.S
end

section
namespace Go.Proofs.Ytjgleaakgbnjgaa.S
open Go.RowKit Go.Proofs.YtjgleaakgbnjgaaW.PrintWords Go.Proofs.YtjgleaakgbnjgaaW.PrintLast Go.Proofs.YtjgleaakgbnjgaaW.PrintMore
attribute [local go_sem] max2_int min2_int max_two min_two max_three min_three max_four min_four
attribute [local go_sem] XWalk.cell2
def slices_IndexFunc_int64_int64__value_times_1.l0 : Nat → List Int → Int → Int → Option (Int)
 | 0, _, _, _ => none
 | k + 1, x0, x7, x8 => if x8 < x7 then (if 0 ≤ x8 then (if x8 < (x0.length : Int) then ((value_times_1.f (rd x0 x8)).bind fun t150 => (if t150 = true then (some x8) else (slices_IndexFunc_int64_int64__value_times_1.l0 k x0 x7 (wrap64 (x8 + 1))))) else (none)) else (none)) else (some (-1))
def slices_IndexFunc_int64_int64__value_times_1.f (k : Nat) (l0 : List Int)  : Option (Int) := slices_IndexFunc_int64_int64__value_times_1.l0 k l0 (l0.length : Int) 0
set_option maxHeartbeats 8000000 in
set_option maxRecDepth 100000 in
theorem slices_IndexFunc_int64_int64__value_times_1.calls (k : Nat) (A0 : Option Addr) (c0 : Nat) (l0 : List Int)  (r : Int) (w : World) (hr0 : Kd.C (Kd.int .i64) w A0 l0.length l0) (hc0 : l0.length ≤ c0) (h : slices_IndexFunc_int64_int64__value_times_1.f k l0 = some r) :
  Calls Star.prog 78 #[.slice A0 l0.length c0, .func (.func 58) #[] #[]] w fun e w' => e = .returned (.int .i64 r) ∧ Below w.heap.size w w' := by
 have HR0 := Aside0.mk hr0
 have HC0 := Aside0.mk hc0
 clear hr0 hc0
 have HB := Aside0.mk (Below.refl w.heap.size w)
 have H : (slices_IndexFunc_int64_int64__value_times_1.l0 k l0 (l0.length : Int) 0) = some r := h
 clear h
 have H' := Aside0.mk H
 clear H
 go_enter Star.func78, Try.ntmps78
 go_wp2
 go_loopg [8] k (fun kq v8 w' => ∃ (x8_1 : Int), v8 = .int .i64 x8_1 ∧ Aside0 (slices_IndexFunc_int64_int64__value_times_1.l0 kq l0 (l0.length : Int) x8_1 = some r) ∧ Aside0 (kq ≤ k) ∧ Aside0 (Below w.heap.size w w'))
 case atStart => exact ⟨(0), (by first | rfl | (simp; done) | (simp [*]; done)), H', ⟨Nat.le_refl _⟩, ⟨by repeat (first | (with_reducible first | exact HB.out | apply below_alloc | apply pw_below_drewN | apply below_drew1) | exact HB.out)⟩⟩
 case round =>
  clear H'
  try clear p2
  obtain ⟨x8_1, rfl, HA, HK1, HB⟩ := hrel
  cases gk with
  | zero => exact absurd HA.out (by simp [slices_IndexFunc_int64_int64__value_times_1.l0])
  | succ k1 =>
   have H := HA.out
   clear HA
   simp only [slices_IndexFunc_int64_int64__value_times_1.l0] at H
   by_cases c3 : x8_1 < (l0.length : Int)
   ·rw [if_pos c3] at H
    have c3b0 : decide (x8_1 < (l0.length : Int)) = true := decide_eq_true c3
    clear c3
    by_cases c4 : 0 ≤ x8_1
    ·rw [if_pos c4] at H
     have c4b0 : decide (0 ≤ x8_1) = true := decide_eq_true c4
     clear c4
     by_cases c5 : x8_1 < (l0.length : Int)
     ·rw [if_pos c5] at H
      have c5b0 : decide (x8_1 < (l0.length : Int)) = true := decide_eq_true c5
      clear c5
      replace H := Option.bind_eq_some_iff.mp H
      obtain ⟨t150, A60, H⟩ := H
      replace H : (if t150 = true then (some x8_1) else (slices_IndexFunc_int64_int64__value_times_1.l0 k1 l0 (l0.length : Int) (wrap64 (x8_1 + 1)))) = some r := H
      have A6 := Aside0.mk A60
      clear A60
      by_cases c7 : t150 = true
      ·subst c7
       have H1 : (some x8_1) = some r := by rw [if_pos rfl] at H; exact H
       clear H
       have H := H1
       clear H1
       obtain rfl := Option.some.inj H
       have p149 : 0 ≤ (x8_1 : Int) := of_decide_eq_true (by first | (with_reducible assumption) | assumption)
       have q149 : x8_1 < (l0.length : Int) := of_decide_eq_true (by first | (with_reducible assumption) | assumption)
       obtain ⟨ad149, e149, hx149_0⟩ := Kd.at_int HR0.out x8_1 p149 q149
       cases e149
       try replace hx149_0 := (HB.out.cell (World.block_lt_of_cell? w _ hx149_0)).trans hx149_0
       replace p149 := eq_true p149
       replace q149 := eq_true q149
       go_wp2_with (first | (go_at_call 58; (with_reducible refine (value_times_1.calls (rd l0 x8_1) true _ A6.out).mono ?_); rintro e w' ⟨rfl, ⟨nd, rfl⟩⟩))
       go_ret
       exact ⟨by first | rfl | (simp [errW_none, errW_some] <;> rfl) | (simp [*, errW_none, errW_some] <;> rfl), by repeat (first | (with_reducible first | exact HB.out | apply below_alloc | apply pw_below_drewN | apply below_drew1) | exact HB.out)⟩
      ·replace c7 := Bool.eq_false_iff.mpr c7
       subst c7
       have H1 : (slices_IndexFunc_int64_int64__value_times_1.l0 k1 l0 (l0.length : Int) (wrap64 (x8_1 + 1))) = some r := by rw [if_neg (show ¬ (false = true) by decide)] at H; exact H
       clear H
       have H := H1
       clear H1
       have H' := Aside0.mk H
       clear H
       have p149 : 0 ≤ (x8_1 : Int) := of_decide_eq_true (by first | (with_reducible assumption) | assumption)
       have q149 : x8_1 < (l0.length : Int) := of_decide_eq_true (by first | (with_reducible assumption) | assumption)
       obtain ⟨ad149, e149, hx149_0⟩ := Kd.at_int HR0.out x8_1 p149 q149
       cases e149
       try replace hx149_0 := (HB.out.cell (World.block_lt_of_cell? w _ hx149_0)).trans hx149_0
       replace p149 := eq_true p149
       replace q149 := eq_true q149
       go_wp2_with (first | (go_at_call 58; (with_reducible refine (value_times_1.calls (rd l0 x8_1) false _ A6.out).mono ?_); rintro e w' ⟨rfl, ⟨nd, rfl⟩⟩))
       go_roundg k1
       case measure => have := HK1.out; omega
       case rel => exact ⟨(wrap64 (x8_1 + 1)), (by first | rfl | (simp; done) | (simp [*]; done)), H', ⟨by have := HK1.out; omega⟩, ⟨by repeat (first | (with_reducible first | exact HB.out | apply below_alloc | apply pw_below_drewN | apply below_drew1) | exact HB.out)⟩⟩
     ·rw [if_neg c5] at H
      exact absurd H (by simp)
    ·rw [if_neg c4] at H
     exact absurd H (by simp)
   ·rw [if_neg c3] at H
    have c3b0 : decide (x8_1 < (l0.length : Int)) = false := decide_eq_false c3
    clear c3
    obtain rfl := Option.some.inj H
    go_wp2
    go_ret
    exact ⟨by first | rfl | (simp [errW_none, errW_some] <;> rfl) | (simp [*, errW_none, errW_some] <;> rfl), by repeat (first | (with_reducible first | exact HB.out | apply below_alloc | apply pw_below_drewN | apply below_drew1) | exact HB.out)⟩
end Go.Proofs.Ytjgleaakgbnjgaa.S
end

section
namespace Go.Proofs.Ytjgleaakgbnjgaa.S
open Go.RowKit Go.Proofs.YtjgleaakgbnjgaaW.PrintWords Go.Proofs.YtjgleaakgbnjgaaW.PrintLast Go.Proofs.YtjgleaakgbnjgaaW.PrintMore
attribute [local go_sem] max2_int min2_int max_two min_two max_three min_three max_four min_four
attribute [local go_sem] XWalk.cell2
def slices_ContainsFunc_int64_int64__value_times_1.f (k : Nat) (l0 : List Int)  : Option (Bool) := (slices_IndexFunc_int64_int64__value_times_1.f k l0).bind fun t151 => (some (decide (t151 ≥ 0)))
set_option maxHeartbeats 8000000 in
set_option maxRecDepth 100000 in
theorem slices_ContainsFunc_int64_int64__value_times_1.calls (k : Nat) (A0 : Option Addr) (c0 : Nat) (l0 : List Int)  (r : Bool) (w : World) (hr0 : Kd.C (Kd.int .i64) w A0 l0.length l0) (hc0 : l0.length ≤ c0) (h : slices_ContainsFunc_int64_int64__value_times_1.f k l0 = some r) :
  Calls Star.prog 60 #[.slice A0 l0.length c0, .func (.func 58) #[] #[]] w fun e w' => e = .returned (.bool r) ∧ Below w.heap.size w w' := by
 have HR0 := Aside0.mk hr0
 have HC0 := Aside0.mk hc0
 clear hr0 hc0
 have HB := Aside0.mk (Below.refl w.heap.size w)
 have H : ((slices_IndexFunc_int64_int64__value_times_1.f k l0).bind fun t151 => (some (decide (t151 ≥ 0)))) = some r := h
 clear h
 replace H := Option.bind_eq_some_iff.mp H
 obtain ⟨t151, A30, H⟩ := H
 replace H : (some (decide (t151 ≥ 0))) = some r := H
 have A3 := Aside0.mk A30
 clear A30
 obtain rfl := Option.some.inj H
 go_enter Star.func60, Try.ntmps60
 go_wp2_with (first | ((with_reducible refine gate_callee (f := 78) rfl ?_); refine goesL_ (some 7) rfl rfl Star.func78 (by kernel_rfl) rfl #[.slice A0 l0.length c0, .func (.func 58) #[] #[]] rfl (by (try simp only [List.map_toArray, List.map_cons, List.map_nil]); first | done | rfl | (simp only [List.length_drop, List.length_take]; rfl)) ?_; (with_reducible refine (slices_IndexFunc_int64_int64__value_times_1.calls k _ _ l0  t151 _ ?side1 ?side2 A3.out).mono ?_); (case side1 => repeat (first | exact HR0.out | (with_reducible refine Kd.C_alloc ?_ _) | (with_reducible refine Kd.C_drewN ?_ _) | (with_reducible refine Kd.C_drew ?_))); (case side2 => exact HC0.out); rintro e w4 ⟨rfl, hb⟩; refine ⟨_, rfl, ?_⟩; have n0_ := Aside0.mk (below_step (by repeat (first | (with_reducible first | exact HB.out | apply below_alloc | apply pw_below_drewN | apply below_drew1) | exact HB.out)) hb); clear HB; have HB := n0_; clear n0_; (try clear hb); (try clear hb2); (try clear hk); (try clear hi)))
 go_ret
 exact ⟨by first | rfl | (simp [errW_none, errW_some] <;> rfl) | (simp [*, errW_none, errW_some] <;> rfl), by repeat (first | (with_reducible first | exact HB.out | apply below_alloc | apply pw_below_drewN | apply below_drew1) | exact HB.out)⟩
end Go.Proofs.Ytjgleaakgbnjgaa.S
end

section
namespace Go.Proofs.Ytjgleaakgbnjgaa.S
open Go.RowKit Go.Proofs.YtjgleaakgbnjgaaW.PrintWords Go.Proofs.YtjgleaakgbnjgaaW.PrintLast Go.Proofs.YtjgleaakgbnjgaaW.PrintMore
attribute [local go_sem] max2_int min2_int max_two min_two max_three min_three max_four min_four
attribute [local go_sem] XWalk.cell2
def value_times_2.f (k : Nat) (a0 : Int) (a1 : Int) (a2_0 : Int) (a3_0 : Int) : Option (Int × Int) := (money_Add.f (wrap64 (a0 * a2_0)) a1).bind fun bt143 => (if bt143.2 = 0 then ((rate_Discount.f k bt143.1 a3_0).bind fun bt145 => (if bt145.2 = 0 then (if bt145.1 > 4611686018427387904 then (some (bt145.1, 3)) else (if bt145.1 < (-4611686018427387904) then (some (bt145.1, 3)) else (some (bt145.1, bt145.2)))) else (some (bt145.1, bt145.2)))) else (some (0, bt143.2)))
set_option maxHeartbeats 8000000 in
set_option maxRecDepth 100000 in
theorem value_times_2.calls (k : Nat) (a0 : Int) (a1 : Int) (gc2 : Nat) (a2_0 : Int) (gc3 : Nat) (a3_0 : Int) (r1 : Int) (r2 : Int) (w : World) (hgc2 : w.heap[gc2]? = some (.cells #[.int .i64 a2_0] 2 (0, 0))) (hgc3 : w.heap[gc3]? = some (.cells #[.int .i64 a3_0] 2 (0, 0))) (h : value_times_2.f k a0 a1 a2_0 a3_0 = some (r1, r2)) :
  Calls Star.prog 62 #[.int .i64 a0, .int .i64 a1, .pointer (some ⟨gc2, 0, none⟩), .pointer (some ⟨gc3, 0, none⟩)] w fun e w' => e = .returned (.tuple #[.int .i64 r1, .int .i64 r2]) ∧ Below w.heap.size w w' := by
 have BK141 := Aside0.mk hgc2
 clear hgc2
 have BK142 := Aside0.mk hgc3
 clear hgc3
 have HB := Aside0.mk (Below.refl w.heap.size w)
 have H : ((money_Add.f (wrap64 (a0 * a2_0)) a1).bind fun bt143 => (if bt143.2 = 0 then ((rate_Discount.f k bt143.1 a3_0).bind fun bt145 => (if bt145.2 = 0 then (if bt145.1 > 4611686018427387904 then (some (bt145.1, 3)) else (if bt145.1 < (-4611686018427387904) then (some (bt145.1, 3)) else (some (bt145.1, bt145.2)))) else (some (bt145.1, bt145.2)))) else (some (0, bt143.2)))) = some (r1, r2) := h
 clear h
 replace H := Option.bind_eq_some_iff.mp H
 obtain ⟨⟨t143, t144⟩, A50, H⟩ := H
 replace H : (if t144 = 0 then ((rate_Discount.f k t143 a3_0).bind fun bt145 => (if bt145.2 = 0 then (if bt145.1 > 4611686018427387904 then (some (bt145.1, 3)) else (if bt145.1 < (-4611686018427387904) then (some (bt145.1, 3)) else (some (bt145.1, bt145.2)))) else (some (bt145.1, bt145.2)))) else (some (0, t144))) = some (r1, r2) := H
 have A5 := Aside0.mk A50
 clear A50
 by_cases c6 : t144 = 0
 ·rw [if_pos c6] at H
  have c6b0 : (t144 == 0) = true := beq_iff_eq.mpr c6
  have c6b1 : (t144 != 0) = false := bne_eq_false_iff_eq.mpr c6
  clear c6
  replace H := Option.bind_eq_some_iff.mp H
  obtain ⟨⟨t145, t146⟩, A70, H⟩ := H
  replace H : (if t146 = 0 then (if t145 > 4611686018427387904 then (some (t145, 3)) else (if t145 < (-4611686018427387904) then (some (t145, 3)) else (some (t145, t146)))) else (some (t145, t146))) = some (r1, r2) := H
  have A7 := Aside0.mk A70
  clear A70
  have HC8 := Aside0.mk H
  clear H
  have hcz9_0 : w.cell? ⟨gc2, 0, none⟩ = some (.int .i64 a2_0) := (blk_cell BK141.out 0).trans rfl
  have hfz9_0 := blk_frozen BK141.out 0
  go_enter Star.func62, Try.ntmps62
  go_upto_region 5 with (first | ((with_reducible refine gate_callee (f := 57) rfl ?_); refine goesL_ (some 16) rfl rfl Star.func57 (by kernel_rfl) rfl #[.int .i64 (wrap64 (a0 * a2_0)), .int .i64 a1] rfl (by (try simp only [List.map_toArray, List.map_cons, List.map_nil]); first | done | rfl | (simp only [List.length_drop, List.length_take]; rfl)) ?_; (with_reducible refine (money_Add.calls (wrap64 (a0 * a2_0)) a1 t143 t144 _ A5.out).mono ?_); rintro e w' ⟨rfl, ⟨nd, rfl⟩⟩; refine ⟨_, rfl, ?_⟩; have hcz10_0 : w.cell? ⟨gc3, 0, none⟩ = some (.int .i64 a3_0) := (blk_cell BK142.out 0).trans rfl; have hfz10_0 := blk_frozen BK142.out 0) | ((with_reducible refine gate_callee (f := 63) rfl ?_); refine goesL_ (some 25) rfl rfl Star.func63 (by kernel_rfl) rfl #[.int .i64 t143, .int .i64 a3_0] rfl (by (try simp only [List.map_toArray, List.map_cons, List.map_nil]); first | done | rfl | (simp only [List.length_drop, List.length_take]; rfl)) ?_; (with_reducible refine (rate_Discount.calls k t143 a3_0 t145 t146 _ A7.out).mono ?_); rintro e w11 ⟨rfl, hb⟩; refine ⟨_, rfl, ?_⟩; have n0_ := Aside0.mk (blk_below (g := gc2) (o := .cells #[.int .i64 a2_0] 2 (0, 0)) (by (with_reducible repeat (first | refine blk_drewN ?_ _ | refine blk_drew ?_ | refine blk_alloc ?_ _)); exact BK141.out) hb); have n1_ := Aside0.mk (blk_below (g := gc3) (o := .cells #[.int .i64 a3_0] 2 (0, 0)) (by (with_reducible repeat (first | refine blk_drewN ?_ _ | refine blk_drew ?_ | refine blk_alloc ?_ _)); exact BK142.out) hb); have n2_ := Aside0.mk (below_step (by repeat (first | (with_reducible first | exact HB.out | apply below_alloc | apply pw_below_drewN | apply below_drew1 | refine below_set ?_ GE141.out | refine below_set ?_ GE142.out) | exact HB.out)) hb); clear BK141; clear BK142; clear HB; have BK141 := n0_; have BK142 := n1_; have HB := n2_; clear n0_ n1_ n2_; (try clear hb); (try clear hb2); (try clear hk); (try clear hi)))
  have H := HC8.out
  clear HC8
  by_cases c12 : t146 = 0
  ·rw [if_pos c12] at H
   have c12b0 : (t146 == 0) = true := beq_iff_eq.mpr c12
   have c12b1 : (t146 != 0) = false := bne_eq_false_iff_eq.mpr c12
   clear c12
   by_cases c13 : t145 > 4611686018427387904
   ·rw [if_pos c13] at H
    have c13b0 : decide (4611686018427387904 < t145) = true := decide_eq_true c13
    clear c13
    simp only [Option.some.injEq, Prod.mk.injEq] at H
    obtain ⟨rfl, rfl⟩ := H
    go_wp2
    go_ret2
    exact ⟨by first | rfl | (simp [errW_none, errW_some] <;> rfl) | (simp [*, errW_none, errW_some] <;> rfl), by repeat (first | (with_reducible first | exact HB.out | apply below_alloc | apply pw_below_drewN | apply below_drew1 | refine below_set ?_ GE141.out | refine below_set ?_ GE142.out) | exact HB.out)⟩
   ·rw [if_neg c13] at H
    have c13b0 : decide (4611686018427387904 < t145) = false := decide_eq_false c13
    clear c13
    by_cases c14 : t145 < (-4611686018427387904)
    ·rw [if_pos c14] at H
     have c14b0 : decide (t145 < (-4611686018427387904)) = true := decide_eq_true c14
     clear c14
     simp only [Option.some.injEq, Prod.mk.injEq] at H
     obtain ⟨rfl, rfl⟩ := H
     go_wp2
     go_ret2
     exact ⟨by first | rfl | (simp [errW_none, errW_some] <;> rfl) | (simp [*, errW_none, errW_some] <;> rfl), by repeat (first | (with_reducible first | exact HB.out | apply below_alloc | apply pw_below_drewN | apply below_drew1 | refine below_set ?_ GE141.out | refine below_set ?_ GE142.out) | exact HB.out)⟩
    ·rw [if_neg c14] at H
     have c14b0 : decide (t145 < (-4611686018427387904)) = false := decide_eq_false c14
     clear c14
     simp only [Option.some.injEq, Prod.mk.injEq] at H
     obtain ⟨rfl, rfl⟩ := H
     go_wp2
     go_ret2
     exact ⟨by first | rfl | (simp [errW_none, errW_some] <;> rfl) | (simp [*, errW_none, errW_some] <;> rfl), by repeat (first | (with_reducible first | exact HB.out | apply below_alloc | apply pw_below_drewN | apply below_drew1 | refine below_set ?_ GE141.out | refine below_set ?_ GE142.out) | exact HB.out)⟩
  ·rw [if_neg c12] at H
   have c12b0 : (t146 == 0) = false := beq_eq_false_iff_ne.mpr c12
   have c12b1 : (t146 != 0) = true := bne_iff_ne.mpr c12
   simp only [Option.some.injEq, Prod.mk.injEq] at H
   obtain ⟨rfl, rfl⟩ := H
   go_wp2
   go_ret2
   exact ⟨by first | rfl | (simp [errW_none, errW_some] <;> rfl) | (simp [*, errW_none, errW_some] <;> rfl), by repeat (first | (with_reducible first | exact HB.out | apply below_alloc | apply pw_below_drewN | apply below_drew1 | refine below_set ?_ GE141.out | refine below_set ?_ GE142.out) | exact HB.out)⟩
 ·rw [if_neg c6] at H
  have c6b0 : (t144 == 0) = false := beq_eq_false_iff_ne.mpr c6
  have c6b1 : (t144 != 0) = true := bne_iff_ne.mpr c6
  simp only [Option.some.injEq, Prod.mk.injEq] at H
  obtain ⟨rfl, rfl⟩ := H
  have hcz15_0 : w.cell? ⟨gc2, 0, none⟩ = some (.int .i64 a2_0) := (blk_cell BK141.out 0).trans rfl
  have hfz15_0 := blk_frozen BK141.out 0
  go_enter Star.func62, Try.ntmps62
  go_wp2_with (first | ((with_reducible refine gate_callee (f := 57) rfl ?_); refine goesL_ (some 16) rfl rfl Star.func57 (by kernel_rfl) rfl #[.int .i64 (wrap64 (a0 * a2_0)), .int .i64 a1] rfl (by (try simp only [List.map_toArray, List.map_cons, List.map_nil]); first | done | rfl | (simp only [List.length_drop, List.length_take]; rfl)) ?_; (with_reducible refine (money_Add.calls (wrap64 (a0 * a2_0)) a1 t143 t144 _ A5.out).mono ?_); rintro e w' ⟨rfl, ⟨nd, rfl⟩⟩; refine ⟨_, rfl, ?_⟩))
  go_ret2
  exact ⟨by first | rfl | (simp [errW_none, errW_some] <;> rfl) | (simp [*, errW_none, errW_some] <;> rfl), by repeat (first | (with_reducible first | exact HB.out | apply below_alloc | apply pw_below_drewN | apply below_drew1 | refine below_set ?_ GE141.out | refine below_set ?_ GE142.out) | exact HB.out)⟩
end Go.Proofs.Ytjgleaakgbnjgaa.S
end

section
namespace Go.Proofs.Ytjgleaakgbnjgaa.XMdiv
open Go.RowKit S XNum XBits XWide Rnd Go.Proofs.YtjgleaakgbnjgaaW.PrintWords
theorem rnd_n {A b : Int} (hb : 0 < b) : rnd A b 1 = near A b := by
 unfold rnd
 rw [if_neg (c := (1 : Int) = 0) (by omega), if_neg (c := b < 0) (by omega)]
theorem mdiv_n {A b : Int} (hb : 0 < b) : mdiv A b 1 = if I64 (near A b) then (near A b, 0) else (0, 3) := by
 unfold mdiv
 rw [if_neg (c := (1 : Int) < 0 ∨ (1 : Int) ≥ 2) (by omega), if_neg (c := b = 0) (by omega), rnd_n hb]
theorem mdiv_i64 (A b way : Int) : I64 (mdiv A b way).1 := by
 unfold mdiv
 split
 ·exact ⟨by decide, by decide⟩
 ·split
  ·exact ⟨by decide, by decide⟩
  ·split
   ·assumption
   ·exact ⟨by decide, by decide⟩
theorem near_anti {A b c : Int} (hA : 0 ≤ A) (hb : 0 < b) (h : b ≤ c) : near A c ≤ near A b := by
 obtain ⟨a1, a2, a3⟩ := near_spec (A := A) hb
 obtain ⟨b1, b2, b3⟩ := near_spec (A := A) (b := c) (by omega)
 have n0 := near_nn (A := A) hb hA
 have m0 := near_nn (A := A) (b := c) (by omega) hA
 generalize near A b = N at *
 generalize near A c = M at *
 by_cases d : M ≤ N
 ·exact d
 -- M ≥ N + 1: c M ≥ c (N + 1) ≥ b N + ..
 have e1 : c * (N + 1) ≤ c * M := Int.mul_le_mul_of_nonneg_left (by omega) (by omega)
 have e2 : b * N ≤ c * N := Int.mul_le_mul_of_nonneg_right h n0
 rw [Int.mul_add, Int.mul_one] at e1
 -- 2 c M ≤ 2 A + c, 2 A ≤ 2 b N + b
 have e3 : M = N + 1 := by
  by_cases f : M = N + 1
  ·exact f
  ·have : c * (N + 2) ≤ c * M := Int.mul_le_mul_of_nonneg_left (by omega) (by omega)
   rw [Int.mul_add] at this
   omega
 subst e3
 rw [Int.mul_add, Int.mul_one] at *
 by_cases g : b = c
 ·subst g
  omega
 ·omega
end Go.Proofs.Ytjgleaakgbnjgaa.XMdiv
end

section
namespace Go.Proofs.Ytjgleaakgbnjgaa.S
open Go.RowKit Go.Proofs.YtjgleaakgbnjgaaW.PrintWords Go.Proofs.YtjgleaakgbnjgaaW.PrintLast Go.Proofs.YtjgleaakgbnjgaaW.PrintMore
attribute [local go_sem] max2_int min2_int max_two min_two max_three min_three max_four min_four
attribute [local go_sem] XWalk.cell2
end Go.Proofs.Ytjgleaakgbnjgaa.S
end

section
namespace Go.Proofs.Ytjgleaakgbnjgaa.S
open Go.RowKit Go.Proofs.YtjgleaakgbnjgaaW.PrintWords Go.Proofs.YtjgleaakgbnjgaaW.PrintLast Go.Proofs.YtjgleaakgbnjgaaW.PrintMore
attribute [local go_sem] max2_int min2_int max_two min_two max_three min_three max_four min_four
attribute [local go_sem] XWalk.cell2
end Go.Proofs.Ytjgleaakgbnjgaa.S
end

section
namespace Go.Proofs.Ytjgleaakgbnjgaa.S
open Go.RowKit Go.Proofs.YtjgleaakgbnjgaaW.PrintWords Go.Proofs.YtjgleaakgbnjgaaW.PrintLast Go.Proofs.YtjgleaakgbnjgaaW.PrintMore
attribute [local go_sem] max2_int min2_int max_two min_two max_three min_three max_four min_four
attribute [local go_sem] XWalk.cell2
end Go.Proofs.Ytjgleaakgbnjgaa.S
end

section
namespace Go.Proofs.Ytjgleaakgbnjgaa.XRate
open Go.RowKit S XNum XBits XWide Rnd XMdiv Go.Proofs.YtjgleaakgbnjgaaW.PrintWords
def mayR (r : Int) : Prop := -990000000000 ≤ r ∧ r ≤ 10000000000000
instance (r : Int) : Decidable (mayR r) := inferInstanceAs (Decidable (_ ∧ _))
theorem may (r : Int) : rate_May.f r = some (decide (mayR r)) := by
 unfold rate_May.f
 by_cases c : mayR r
 ·rw [decide_eq_true c]
  unfold mayR at c
  rw [if_pos (by omega), decide_eq_true (by omega)]
 ·rw [decide_eq_false c]
  unfold mayR at c
  by_cases d : r ≥ -990000000000
  ·rw [if_pos d, decide_eq_false (by omega)]
  ·rw [if_neg d]
def grow (x r : Int) : Int × Int := if mayR r then mdiv (x * (1000000000000 + r)) 1000000000000 1 else (0, 2)
def discount (x r : Int) : Int × Int := if mayR r then mdiv (x * 1000000000000) (1000000000000 + r) 1 else (0, 2)
theorem discount_f {x r : Int} (hx : I64 x) {k : Nat} (hk : 30 ≤ k) : rate_Discount.f k x r = some (discount x r) := by
 unfold rate_Discount.f rate_over_rate_back.f rate_back_terms.f
 rw [may]
 simp only [Option.bind_some]
 unfold discount
 by_cases c : mayR r
 ·rw [decide_eq_true c, if_pos c]
  simp only [if_true]
  unfold mayR at c
  rw [w64 (by omega) (by omega), mulDiv hx ⟨by omega, by omega⟩ ⟨by omega, by omega⟩ hk]
  simp only [Option.bind_some]
 ·rw [decide_eq_false c, if_neg c]
  simp
theorem discount_i64 (x r : Int) : I64 (discount x r).1 := by
 unfold discount
 split
 ·exact mdiv_i64 _ _ _
 ·exact ⟨by omega, by omega⟩
def part (r o all : Int) : Int × Int := if o < 0 ∨ all ≤ 0 then (0, 2) else mdiv (r * o) all 1
end Go.Proofs.Ytjgleaakgbnjgaa.XRate
end

section
namespace Go.Proofs.Ytjgleaakgbnjgaa.S
open Go.RowKit Go.Proofs.YtjgleaakgbnjgaaW.PrintWords Go.Proofs.YtjgleaakgbnjgaaW.PrintLast Go.Proofs.YtjgleaakgbnjgaaW.PrintMore
attribute [local go_sem] max2_int min2_int max_two min_two max_three min_three max_four min_four
attribute [local go_sem] XWalk.cell2
def money_Sub.f (a0 : Int) (a1 : Int) : Option (Int × Int) := if ((decide (a0 < 0)) == (decide (a1 < 0))) = true then ((money_told.f (wrap64 (a0 - a1)) true).bind fun bt422 => (some (bt422.1, bt422.2))) else ((money_told.f (wrap64 (a0 - a1)) ((decide ((wrap64 (a0 - a1)) < 0)) == (decide (a0 < 0)))).bind fun bt424 => (some (bt424.1, bt424.2)))
end Go.Proofs.Ytjgleaakgbnjgaa.S
end

section
namespace Go.Proofs.Ytjgleaakgbnjgaa.S
open Go.RowKit Go.Proofs.YtjgleaakgbnjgaaW.PrintWords Go.Proofs.YtjgleaakgbnjgaaW.PrintLast Go.Proofs.YtjgleaakgbnjgaaW.PrintMore
attribute [local go_sem] max2_int min2_int max_two min_two max_three min_three max_four min_four
attribute [local go_sem] XWalk.cell2
end Go.Proofs.Ytjgleaakgbnjgaa.S
end

section
namespace Go.Proofs.Ytjgleaakgbnjgaa.XMoney
open Go.RowKit S XNum XBits XWide Go.Proofs.YtjgleaakgbnjgaaW.PrintWords
def told (n : Int) : Int × Int := if -9223372036854775808 ≤ n ∧ n ≤ 9223372036854775807 then (n, 0) else (0, 3)
theorem told_in {n : Int} (h0 : -9223372036854775808 ≤ n) (h1 : n ≤ 9223372036854775807) : told n = (n, 0) := by unfold told; rw [if_pos ⟨h0, h1⟩]
theorem told_out {n : Int} (h : n < -9223372036854775808 ∨ 9223372036854775807 < n) : told n = (0, 3) := by unfold told; rw [if_neg (by omega)]
theorem told_f (n : Int) (b : Bool) : money_told.f n b = some (if b = true then (n, 0) else (0, 3)) := by
 unfold money_told.f
 cases b <;> simp
theorem add {a b : Int} (ha : I64 a) (hb : I64 b) : money_Add.f a b = some (told (a + b)) := by
 obtain ⟨a0, a1⟩ := ha
 obtain ⟨b0, b1⟩ := hb
 unfold money_Add.f money_sum_int64.f
 by_cases ca : a < 0
 ·by_cases cb : b < 0
  ·rw [decide_eq_true ca, decide_eq_true cb]
   simp only [beq_self_eq_true, Bool.not_true, Bool.false_eq_true, if_false, Option.bind_some, told_f]
   by_cases c : a + b < -9223372036854775808
   ·rw [told_out (.inl c), decide_eq_false (by unfold wrap64; omega)]
    simp
   ·rw [told_in (by omega) (by omega), w64 (by omega) (by omega), decide_eq_true (by omega)]
    simp
  ·rw [decide_eq_true ca, decide_eq_false cb, told_in (by omega) (by omega), w64 (by omega) (by omega)]
   simp [told_f]
 ·by_cases cb : b < 0
  ·rw [decide_eq_false ca, decide_eq_true cb, told_in (by omega) (by omega), w64 (by omega) (by omega)]
   simp [told_f]
  ·rw [decide_eq_false ca, decide_eq_false cb]
   simp only [beq_self_eq_true, Bool.not_true, Bool.false_eq_true, if_false, Option.bind_some, told_f]
   by_cases c : a + b > 9223372036854775807
   ·rw [told_out (.inr c), decide_eq_true (by unfold wrap64; omega)]
    simp
   ·rw [told_in (by omega) (by omega), w64 (by omega) (by omega), decide_eq_false (by omega)]
    simp
theorem sub {a b : Int} (ha : I64 a) (hb : I64 b) : money_Sub.f a b = some (told (a - b)) := by
 obtain ⟨a0, a1⟩ := ha
 obtain ⟨b0, b1⟩ := hb
 unfold money_Sub.f
 by_cases ca : a < 0
 ·by_cases cb : b < 0
  ·rw [decide_eq_true ca, decide_eq_true cb, told_in (by omega) (by omega), w64 (by omega) (by omega)]
   simp [told_f]
  ·rw [decide_eq_true ca, decide_eq_false cb]
   simp only [beq_false, Bool.not_true, Bool.false_eq_true, if_false, Option.bind_some, told_f]
   by_cases c : a - b < -9223372036854775808
   ·rw [told_out (.inl c), decide_eq_false (by unfold wrap64; omega)]
    simp
   ·rw [told_in (by omega) (by omega), w64 (by omega) (by omega), decide_eq_true (by omega)]
    simp
 ·by_cases cb : b < 0
  ·rw [decide_eq_false ca, decide_eq_true cb]
   simp only [beq_true, Bool.false_eq_true, if_false, Option.bind_some, told_f]
   by_cases c : a - b > 9223372036854775807
   ·rw [told_out (.inr c), decide_eq_true (by unfold wrap64; omega)]
    simp
   ·rw [told_in (by omega) (by omega), w64 (by omega) (by omega), decide_eq_false (by omega)]
    simp
  ·rw [decide_eq_false ca, decide_eq_false cb, told_in (by omega) (by omega), w64 (by omega) (by omega)]
   simp [told_f]
theorem may (n : Int) : money_May.f n = some (decide (-10000000000000 ≤ n ∧ n ≤ 10000000000000)) := by
 unfold money_May.f
 split
 ·congr 1
  rw [decide_eq_decide]
  omega
 ·rw [decide_eq_false (by omega)]
end Go.Proofs.Ytjgleaakgbnjgaa.XMoney
end

section
namespace Go.Proofs.Ytjgleaakgbnjgaa.S
open Go.RowKit Go.Proofs.YtjgleaakgbnjgaaW.PrintWords Go.Proofs.YtjgleaakgbnjgaaW.PrintLast Go.Proofs.YtjgleaakgbnjgaaW.PrintMore
attribute [local go_sem] max2_int min2_int max_two min_two max_three min_three max_four min_four
attribute [local go_sem] XWalk.cell2
section
attribute [local go_sem] Oper.semAt_some
section
variable {P : Program} {ops : Array Oper} {Q : Exit → Act → World → Prop} {md : Region.Mode}
theorem region_oper {l n : Nat} {o : Oper} {a : Act} {w : World} {K : Act → World → Prop} (hd : ∀ c, o.op ≠ .defer c) (h : o.wp P a w K Q) : o.wpIn (Fence.wide.inRound l) n P a w K Q := by
  unfold Oper.wp at h
  refine ⟨fun _ _ => trivial, ?_⟩
  rw [show (Fence.wide.inRound l).round = some l from rfl, Oper.semAt_some l a.eval o hd]
  generalize (execOp a.eval o).run P w = r at *
  cases r with
  | ok x w' =>
    cases x <;> simp only [Oper.upon, Oper.uponIn] at h ⊢
    case value u => exact h
    case skip => exact h
    case defer d => exact h
    case enter f args => exact ⟨(fun q => absurd (show false = true from q) (by decide)), CallsIn.inRound l (callsIn_wide.2 h)⟩
    case row row args =>
      refine ⟨(fun q => absurd (show false = true from q) (by decide)), fun c cs _ => ?_⟩
      obtain ⟨v, w2, r, s⟩ := h c cs
      exact ⟨v, w2, r, stepsIn_wide.2 s⟩
  | halt x w' => cases x <;> simp only [Oper.upon, Oper.uponIn] at h ⊢; exact h
theorem region_op {l n i : Nat} {a : Act} {w : World} {K : Act → World → Prop} (hd : ∀ o, ops[i]? = some o → ∀ c, o.op ≠ .defer c) (hQ : ¬ LetsOut Q) (h : wpOp P ops Q i K a w) : wpOpIn (Fence.wide.inRound l) n P ops Q i K a w := by
  unfold wpOp at h
  unfold wpOpIn
  cases ho : ops[i]? with
  | none => simpa [ho] using h
  | some o =>
    simp only [ho] at h ⊢
    split
    · rename_i hw
      simp only [hw, if_true] at h
      exact region_oper (hd o ho) (h.resolve_right fun q => hQ q.2)
    · rename_i hw
      simp only [hw] at h
      exact ⟨fun _ _ => trivial, h⟩
theorem region_any {l n : Nat} (hd : ∀ (i : Nat) (o : Oper), ops[i]? = some o → ∀ c, o.op ≠ .defer c) (hQ : ¬ LetsOut Q) : ∀ (fuel : Nat) (listed : Array Bool) (a : Act) (w : World), wpAny P md ops Q fuel listed a w → wpAnyIn (Fence.wide.inRound l) n P md ops Q fuel listed a w
  | 0, _, _, _, h => h
  | fuel + 1, _, _, _, h => ⟨h.1, fun i hi => wpOpIn_mono (fun a' w' h' => region_any hd hQ fuel _ a' w' h') (region_op (hd i) hQ (h.2 i hi))⟩
def plainOp : Op → Bool
  | .defer _ => false
  | _ => true
theorem region_lone {l n id : Nat} {S : World → Prop} {a : Act} {w : World} (hm : P.follows .mixedOrders = true) (hd' : (ops.all fun o => plainOp o.op) = true) (hQ : ¬ LetsOut Q)
    (h : wpAnyH P .any ops Q S ops.size (Array.replicate ops.size false) a { w with drawn := w.drawn + 1 }) : (Code.region id ops true).wpIn (Fence.wide.inRound l) n P Q a w := by
  have hd : ∀ (i : Nat) (o : Oper), ops[i]? = some o → ∀ c, o.op ≠ .defer c := fun i o ho c e => by
    rw [Array.all_eq_true] at hd'
    obtain ⟨hi, rfl⟩ := Array.getElem?_eq_some_iff.1 ho
    have := hd' i hi
    rw [e] at this
    cases this
  exact wpIn_region_any hm (region_any hd hQ _ _ _ _ (wpAny_of_held _ _ _ _ h))
end
section
open Go.Proofs.YtjgleaakgbnjgaaW.PrintLast
theorem region_norm {P : Program} {md : Region.Mode} {ops : Array Oper} {Q : Exit → Act → World → Prop} {S : World → Prop} {fuel : Nat} {l : Array Bool} {a a' : Act} {w : World} (ha : a = a') (h : wpAnyH P md ops Q S fuel l a' w) : wpAnyH P md ops Q S fuel l a w := ha ▸ h
theorem region_callV {P : Program} {ops : Array Oper} {Q : Exit → Act → World → Prop} {i : Nat} {o : Oper} {K : Act → World → Prop} {a : Act} {w : World} {f : FuncId} {fn : Func} {c : Operand} {ops_ : Array Operand} {ts : Array TypeId} (caps : Array Value) (hi : ops[i]? = some o) (hg : o.guard = none) (hf : P.funcs[f]? = some fn) (hname : (fn.name == "runtime.NumGoroutine") = false) (hb : fn.body.isSome = true) (args : Array Value)
    (ho : o.op = .call { callee := .value c, args := ops_, argTypes := ts }) (hc : a.eval c = .func (.func f) #[] caps) (hargs : ops_.map a.eval ++ caps = args) (h : Calls P f args w fun e w' => ∃ v, e = .returned v ∧ K (a.put o.dst v) w') : wpOp P ops Q i K a w := by
  have hw : Region.wanted o (yielded ops a.tmps) = true := by simp [Region.wanted, hg]
  have t : if Region.wanted o (yielded ops a.tmps) = true then Oper.wp P o a w K Q else K (a.put o.dst undef) w := by
    refine call_ f args hw rfl ?_ h
    have he := enters_ hf hname hb args w
    unfold execOp
    simp [ho, resolve, Deferred.ofValue, invoke, hc, hargs, he]
  rw [if_pos hw] at t
  unfold wpOp
  simp only [hi]
  rw [if_pos hw]
  exact Or.inl t
end
theorem value_fold.row_at {W : World} {base e g n cap : Nat} {xs : List Int} (h : W.ownsRow base e 1 (.slice (some ⟨g, 0, none⟩) n cap) n (xs.map (Value.int .i64))) (j : Nat) (hj : j < n) : W.cell? ⟨g, j, none⟩ = some (.int .i64 (xs[j]?.getD 0)) := by
  obtain ⟨hl, h2⟩ := h
  rcases h2 with ⟨hv, _⟩ | ⟨g', cap', cur, hv, _, hgg, _, _, hsz, htk⟩
  · cases hv
  · cases hv
    have h3 : cur.toList[j]? = (xs.map (Value.int .i64))[j]? := by rw [← htk, List.getElem?_take_of_lt (by omega)]
    have h4 : j < xs.length := by rw [List.length_map] at hl; omega
    rw [List.getElem?_map, List.getElem?_eq_getElem h4, Array.getElem?_toList] at h3
    rw [List.getElem?_eq_getElem h4]
    simp [World.cell?, hgg, h3]
theorem value_fold.keeps {B : Nat} {W W2 : World} (h : Below W.heap.size W W2) : KeepsFrom B W W2 := ⟨h.size, fun k o _ hk _ => (h.block k (Array.getElem?_eq_some_iff.1 hk).1).trans hk⟩
theorem value_fold.no_row {W : World} {B : Nat} {o : Obj} (h : W.heap[B]? = some o) (ho : o.isCells = false) {base e size k : Nat} {v : Value} {xs : List Value} (hr : W.ownsRow base e size v k xs) : some B ≠ v.ownBlock := by
  rcases hr.2 with ⟨rfl, _⟩ | ⟨g, cap, cur, rfl, _, hgb, _⟩
  · simp [Value.ownBlock]
  · intro e'
    obtain rfl : B = g := by simpa [Value.ownBlock] using e'
    rw [hgb] at h
    cases h
    cases ho
theorem value_fold.put_cell {W : World} {D : Nat} {o o' : Obj} (h : W.heap[D]? = some o) (ho : o.isCells = false) {p : Addr} {v : Value} (hc : W.cell? p = some v) : (W.putObj D o').cell? p = some v := by
  have hne : p.block ≠ D := by
    rintro rfl
    obtain ⟨o1, h1, h2⟩ := cells_of_cell hc
    rw [h] at h1
    cases h1
    rw [ho] at h2
    cases h2
  exact (World.cell?_of_block (World.putObj_heap_other hne)).trans hc
def seqUpto {α : Type} (f : Nat → α) (k : Nat) : List α := (List.range k).map f
theorem seqUpto_succ {α : Type} (f : Nat → α) (k : Nat) : seqUpto f (k + 1) = seqUpto f k ++ [f k] := by simp [seqUpto, List.range_succ]
theorem seqUpto_length {α : Type} (f : Nat → α) (k : Nat) : (seqUpto f k).length = k := by simp [seqUpto]
def KpB (n₀ Bs : Nat) (W W' : World) : Prop := Below n₀ W W' ∧ ∀ cs T, W.heap[Bs]? = some (.cells cs T (0, 0)) → W'.heap[Bs]? = some (.cells cs T (0, 0))
theorem KpB.refl (n₀ Bs : Nat) (W : World) : KpB n₀ Bs W W := ⟨Below.refl _ _, fun _ _ h => h⟩
theorem KpB.trans {n₀ Bs : Nat} {A B C : World} (h : KpB n₀ Bs A B) (k : KpB n₀ Bs B C) : KpB n₀ Bs A C := ⟨h.1.trans k.1, fun cs T e => k.2 cs T (h.2 cs T e)⟩
theorem KpB.put {n₀ Bs : Nat} {w : World} (hn : n₀ ≤ w.heap.size) (W : World) (l : Nat) (o o' : Obj) (hl : w.heap.size ≤ l) (h : W.heap[l]? = some o) (ho : o.isCells = false) (hw : o.isWalk = false) : KpB n₀ Bs W (W.putObj l o') :=
  ⟨belowK_b hn W l o o' hl h ho hw, fun cs T e => (World.putObj_heap_other (fun q => by subst q; rw [e] at h; cases h; cases ho)).trans e⟩
def backAt (zs : List Int) (j : Nat) : Int × Int := ((zs.length : Int) - 1 - j, zs[zs.length - 1 - j]?.getD 0)
theorem backAt_take (zs : List Int) (k : Nat) (hk : k ≤ zs.length) : (seqUpto (backAt zs) k).map (·.2) = zs.reverse.take k := by
  apply List.ext_getElem?
  intro j
  by_cases hj : j < k
  · rw [List.getElem?_take_of_lt hj, List.getElem?_reverse (by omega)]
    simp [seqUpto, List.getElem?_map, List.getElem?_range hj, backAt]
    rw [List.getElem?_eq_getElem (by omega), Option.getD_some]
  · rw [List.getElem?_eq_none (by simp [seqUpto]; omega), List.getElem?_eq_none (by simp; omega)]
theorem backAt_all (zs : List Int) : (seqUpto (backAt zs) zs.length).map (·.2) = zs.reverse := by
  rw [backAt_take zs _ (Nat.le_refl _), List.take_of_length_le (by simp)]
set_option maxRecDepth 100000 in
set_option maxHeartbeats 4000000 in
theorem slices_Backward_1.run (F : Fence) (n : Nat) (hF : F.fn 93) (hro : F.round = none) (hn : 1 ≤ n) (l Bs n₀ : Nat) (A : Option Addr) (cap : Nat) (zs : List Int) (hreach : zs.length ≤ 1000000000) (J Jx : List (Int × Int) → World → Prop)
    (hY : ∀ pre x W, J pre W → pre.length < zs.length → YieldAt F (n - 1) Star.prog l #[.int .i64 x.1, .int .i64 x.2] W fun e W' =>
      (e = .returned (.bool true) ∧ J (pre ++ [x]) W' ∧ KpB n₀ Bs W W') ∨ (e = .returned (.bool false) ∧ Jx (pre ++ [x]) W'))
    (W : World) (hBs : W.heap[Bs]? = some (.cells #[.slice A zs.length cap] 22 (0, 0))) (hc : ∀ j, j < zs.length → ∃ ad : Addr, A = some ad ∧ (ad.add j).block < n₀ ∧ W.cell? (ad.add j) = some (.int .i64 (zs[j]?.getD 0))) (h0 : J [] W) :
    CallsIn F n Star.prog 93 #[.func (.yield l) #[] #[], .pointer (some ⟨Bs, 0, none⟩)] W fun e W' => (∃ v, e = .returned v) ∧
      ((∃ ys, ys = seqUpto (backAt zs) zs.length ∧ J ys W') ∨ (∃ pre, (∃ k, k ≤ zs.length ∧ pre = seqUpto (backAt zs) k) ∧ Jx pre W')) := by
  refine callsIn_of_wp Star.func93 rfl hF ?_ hro
  simp only [Try.ntmps93, List.size_toArray, List.length_cons, List.length_nil, Nat.reduceAdd, Nat.reduceSub, Array.replicate_succ, Array.replicate_zero, List.push_toArray, List.append_toArray, List.nil_append, List.cons_append]
  have c0 : W.cell? ⟨Bs, 0, none⟩ = some (.slice A zs.length cap) := blk_cell hBs 0
  gi_wp2
  gi_loopw [3] (fun i wr => ∃ k : Nat, k ≤ zs.length ∧ i = .int .i64 ((zs.length : Int) - 1 - k) ∧ J (seqUpto (backAt zs) k) wr ∧ KpB n₀ Bs W wr)
    (fun i _ => (intOf i + 1).toNat)
  case atStart => exact ⟨0, Nat.zero_le _, by simp, h0, KpB.refl _ _ _⟩
  case round =>
    obtain ⟨k, hk, rfl, hJs, hnx⟩ := hrel
    have hB2 := hnx.2 _ _ hBs
    have c1 : wr.cell? ⟨Bs, 0, none⟩ = some (.slice A zs.length cap) := blk_cell hB2 0
    clear c0
    by_cases hlt : k < zs.length
    · obtain ⟨ad, rfl, hb, hcj⟩ := hc (zs.length - 1 - k) (by omega)
      obtain ⟨fn, tmps, assign, body, hy, hR⟩ := hY _ (backAt zs k) wr hJs (by rw [seqUpto_length]; exact hlt)
      have cx := (hnx.1.cell (p := ad.add (zs.length - 1 - k)) hb).trans hcj
      unfold backAt at hy
      dsimp only at hy
      generalize hz : zs[zs.length - 1 - k]?.getD 0 = z at *
      obtain ⟨i, hi⟩ : ∃ i : Int, i = (zs.length : Int) - 1 - k := ⟨_, rfl⟩
      have hin : zs.length - 1 - k = i.toNat := by omega
      rw [hin] at cx
      rw [← hi] at hy
      rw [← hi]
      have q0 : decide (i ≥ 0) = true := decide_eq_true (by omega)
      have q1 : (0 ≤ i) = True := eq_true (by omega)
      have q2 : (i < (zs.length : Int)) = True := eq_true (by omega)
      have HI := Aside0.mk hi
      have bi : -9223372036854775808 ≤ i - 1 ∧ i - 1 ≤ 9223372036854775807 := by omega
      clear hi hin hz hcj hc hk
      gi_wp2
      refine hR.mono ?_
      rintro e W3 (⟨rfl, hJ3, hk3⟩ | ⟨rfl, hJx3⟩)
      · gi_wp2
        go_roundw
        case rel => exact ⟨k + 1, hlt, by rw [HI.out]; congr 1; push_cast; omega, by rw [seqUpto_succ]; exact hJ3, hnx.trans hk3⟩
        case measure => have := HI.out; simp [intOf]; omega
      · gi_wp2
        refine bodyPost_ret (results_none rfl _ _ _) rfl ?_
        exact ⟨⟨_, rfl⟩, .inr ⟨_, ⟨k + 1, hlt, (seqUpto_succ _ _).symm⟩, hJx3⟩⟩
    · obtain rfl : k = zs.length := by omega
      gi_wp2
      go_end0
      exact ⟨⟨_, rfl⟩, .inl ⟨_, rfl, hJs⟩⟩
theorem slices_Backward.run (F : Fence) (n : Nat) (hF : F.fn 79) (hro : F.round = none) (A : Option Addr) (len cap : Nat) (w : World) :
    CallsIn F n Star.prog 79 #[.slice A len cap] w fun e w' => e = .returned (.func (.func 93) #[] #[.pointer (some ⟨w.heap.size, 0, none⟩)]) ∧ w' = w.alloc (.cells #[.slice A len cap] 22) := by
  refine callsIn_of_wp Star.func79 rfl hF ?_ hro
  simp only [Try.ntmps79, List.size_toArray, List.length_cons, List.length_nil, Nat.reduceAdd, Nat.reduceSub, Array.replicate_succ, Array.replicate_zero, List.push_toArray, List.append_toArray, List.nil_append, List.cons_append]
  gi_wp2
  go_ret
  exact ⟨rfl, rfl⟩
theorem slices_Backward_1.stops (F : Fence) (n : Nat) (hF : F.fn 93) (hro : F.round = none) (hn : 1 ≤ n) (Bs n₀ : Nat) (A : Option Addr) (cap : Nat) (zs : List Int) (hreach : zs.length ≤ 1000000000) (w : World) (hn₀ : n₀ ≤ w.heap.size)
    (hBs : w.heap[Bs]? = some (.cells #[.slice A zs.length cap] 22 (0, 0))) (hc : ∀ j, j < zs.length → ∃ ad : Addr, A = some ad ∧ (ad.add j).block < n₀ ∧ w.cell? (ad.add j) = some (.int .i64 (zs[j]?.getD 0))) :
    SeqStopsK F n Star.prog 93 #[.pointer (some ⟨Bs, 0, none⟩)] (fun x : Int × Int => #[Value.int .i64 x.1, Value.int .i64 x.2]) (KpB n₀ Bs) (fun ys => ys = seqUpto (backAt zs) zs.length) (fun pre => ∃ k, k ≤ zs.length ∧ pre = seqUpto (backAt zs) k) zs.length w := fun l J Jx W hW _ _ hY h0 =>
  slices_Backward_1.run F n hF hro hn l Bs n₀ A cap zs hreach J Jx hY W (blk_below hBs hW) (fun j hj => by
    obtain ⟨ad, e, hb, h⟩ := hc j hj
    exact ⟨ad, e, hb, (hW.cell (World.block_lt_of_cell? w _ h)).trans h⟩) h0
def value_fold.stepv (by_ r x b : Int) : Int × Int :=
  if (XMoney.told (wrap64 (x * by_) + b)).2 = 0 then
    (if (XRate.discount (XMoney.told (wrap64 (x * by_) + b)).1 r).2 = 0 then
      (if (XRate.discount (XMoney.told (wrap64 (x * by_) + b)).1 r).1 > 4611686018427387904 then ((XRate.discount (XMoney.told (wrap64 (x * by_) + b)).1 r).1, 3)
       else if (XRate.discount (XMoney.told (wrap64 (x * by_) + b)).1 r).1 < -4611686018427387904 then ((XRate.discount (XMoney.told (wrap64 (x * by_) + b)).1 r).1, 3)
       else ((XRate.discount (XMoney.told (wrap64 (x * by_) + b)).1 r).1, 0))
     else XRate.discount (XMoney.told (wrap64 (x * by_) + b)).1 r)
  else (0, (XMoney.told (wrap64 (x * by_) + b)).2)
theorem value_fold.told_i64 (n : Int) : XWide.I64 (XMoney.told n).1 := by
  unfold XMoney.told
  split
  · assumption
  · exact ⟨by decide, by decide⟩
theorem value_fold.step {by_ r x b : Int} (hb : XWide.I64 b) {k : Nat} (hk : 30 ≤ k) : value_times_2.f k x b by_ r = some (value_fold.stepv by_ r x b) := by
  have hx : XWide.I64 (wrap64 (x * by_)) := by unfold wrap64; constructor <;> omega
  unfold value_times_2.f value_fold.stepv
  rw [XMoney.add hx hb, Option.bind_some]
  have ht := value_fold.told_i64 (wrap64 (x * by_) + b)
  generalize XMoney.told (wrap64 (x * by_) + b) = s at *
  by_cases c1 : s.2 = 0
  · rw [if_pos c1, if_pos c1, XRate.discount_f ht hk, Option.bind_some]
    generalize XRate.discount s.1 r = v at *
    by_cases c2 : v.2 = 0
    · rw [if_pos c2, if_pos c2]
      by_cases c3 : v.1 > 4611686018427387904
      · rw [if_pos c3, if_pos c3]
      · rw [if_neg c3, if_neg c3]
        by_cases c4 : v.1 < -4611686018427387904
        · rw [if_pos c4, if_pos c4]
        · rw [if_neg c4, if_neg c4, c2]
    · rw [if_neg c2, if_neg c2]
  · rw [if_neg c1, if_neg c1]
theorem value_fold.stepv_i64 (by_ r x b : Int) : XWide.I64 (value_fold.stepv by_ r x b).1 := by
  unfold value_fold.stepv
  have h := XRate.discount_i64 (XMoney.told (wrap64 (x * by_) + b)).1 r
  split
  · split
    · split
      · exact h
      · split
        · exact h
        · exact h
    · exact h
  · constructor <;> (show _ ≤ _; simp)
def value_fold.last (o : List Int) : Int := rd o ((o.length : Int) - 1)
def value_fold.next (by_ r : Int) (s : List Int × Int) (x : Int) : List Int × Int :=
  (s.1 ++ [(value_fold.stepv by_ r x (value_fold.last s.1)).1], if s.2 = 0 then (value_fold.stepv by_ r x (value_fold.last s.1)).2 else s.2)
def value_fold.runs (by_ r a : Int) (xs : List Int) : List Int × Int := xs.foldl (value_fold.next by_ r) ([a], 0)
theorem value_fold.runs_snoc (by_ r a : Int) (xs : List Int) (x : Int) : value_fold.runs by_ r a (xs ++ [x]) = value_fold.next by_ r (value_fold.runs by_ r a xs) x := by
  unfold value_fold.runs
  rw [List.foldl_append]
  rfl
theorem value_fold.runs_length (by_ r a : Int) (xs : List Int) : (value_fold.runs by_ r a xs).1.length = xs.length + 1 := by
  have h : ∀ (xs : List Int) (s : List Int × Int), (xs.foldl (value_fold.next by_ r) s).1.length = s.1.length + xs.length := by
    intro xs
    induction xs with
    | nil => intro s; rfl
    | cons x xs ih => intro s; rw [List.foldl_cons, ih]; simp [value_fold.next]; omega
  unfold value_fold.runs
  rw [h]
  simp
  omega
theorem value_fold.runs_err (by_ r a : Int) (xs ys : List Int) (h : (value_fold.runs by_ r a xs).2 ≠ 0) : (value_fold.runs by_ r a (xs ++ ys)).2 = (value_fold.runs by_ r a xs).2 := by
  have g : ∀ (ys : List Int) (s : List Int × Int), s.2 ≠ 0 → (ys.foldl (value_fold.next by_ r) s).2 = s.2 := by
    intro ys
    induction ys with
    | nil => intro s _; rfl
    | cons y ys ih =>
      intro s hs
      have e : (value_fold.next by_ r s y).2 = s.2 := by
        unfold value_fold.next
        rw [if_neg hs]
      rw [List.foldl_cons, ih _ (by rw [e]; exact hs), e]
  unfold value_fold.runs at h ⊢
  rw [List.foldl_append]
  exact g ys _ h
theorem value_fold.runs_i64 (by_ r a : Int) (ha : XWide.I64 a) (xs : List Int) : ∀ z ∈ (value_fold.runs by_ r a xs).1, XWide.I64 z := by
  have g : ∀ (xs : List Int) (s : List Int × Int), (∀ z ∈ s.1, XWide.I64 z) → ∀ z ∈ (xs.foldl (value_fold.next by_ r) s).1, XWide.I64 z := by
    intro xs
    induction xs with
    | nil => intro s hs; exact hs
    | cons x xs ih =>
      intro s hs
      rw [List.foldl_cons]
      refine ih _ fun z hz => ?_
      rcases List.mem_append.mp hz with h | h
      · exact hs z h
      · obtain rfl := List.mem_singleton.mp h
        exact value_fold.stepv_i64 _ _ _ _
  exact g xs _ fun z hz => by obtain rfl := List.mem_singleton.mp hz; exact ha
theorem value_fold.last_i64 (by_ r a : Int) (ha : XWide.I64 a) (xs : List Int) : XWide.I64 (value_fold.last (value_fold.runs by_ r a xs).1) := by
  have hl := value_fold.runs_length by_ r a xs
  have h := value_fold.runs_i64 by_ r a ha xs
  generalize (value_fold.runs by_ r a xs).1 = o at *
  unfold value_fold.last rd
  have e : ((o.length : Int) - 1).toNat = o.length - 1 := by omega
  rw [e, List.getD_eq_getElem?_getD, List.getElem?_eq_getElem (by omega), Option.getD_some]
  exact h _ (List.getElem_mem _)
def value_fold.all (k : Nat) (l : List Int) (a by_ r : Int) : Option (List Int × Int) :=
  if (value_fold.runs by_ r a l.reverse).2 = 0 then (slices_Reverse_int64_int64.f k (value_fold.runs by_ r a l.reverse).1).bind fun s => some (s, 0) else some ([], (value_fold.runs by_ r a l.reverse).2)
def value_fold_int64_int64__value_times_2.f (k : Nat) (l0 : List Int) (a1 a2_0_0 a2_1_0 : Int) : Option (List Int × Int) :=
  if 40 ≤ k ∧ (-9223372036854775808 ≤ a1 ∧ a1 ≤ 9223372036854775807) ∧ l0.length ≤ 1000000000 then value_fold.all k l0 a1 a2_0_0 a2_1_0 else none
set_option maxRecDepth 100000 in
set_option maxHeartbeats 4000000 in
theorem value_fold_int64_int64__value_times_2.calls (k : Nat) (A0 : Option Addr) (c0 : Nat) (l0 : List Int) (a1 : Int) (gc2_0 : Nat) (a2_0_0 : Int) (gc2_1 : Nat) (a2_1_0 : Int) (r1 : List Int) (r2 : Int) (w : World) (hr0 : Kd.C (Kd.int .i64) w A0 l0.length l0) (hc0 : l0.length ≤ c0) (hgc2_0 : w.heap[gc2_0]? = some (.cells #[.int .i64 a2_0_0] 2 (0, 0))) (hgc2_1 : w.heap[gc2_1]? = some (.cells #[.int .i64 a2_1_0] 2 (0, 0))) (h : value_fold_int64_int64__value_times_2.f k l0 a1 a2_0_0 a2_1_0 = some (r1, r2)) :
    Calls Star.prog 61 #[.slice A0 l0.length c0, .int .i64 a1, .func (.func 62) #[] #[.pointer (some ⟨gc2_0, 0, none⟩), .pointer (some ⟨gc2_1, 0, none⟩)]] w fun e w' => ∃ v0_ : Value, e = .returned (.tuple #[v0_, .int .i64 r2]) ∧ Kd.R (Kd.int .i64) 2 w' w.heap.size (fun _ => True) v0_ r1 ∧ Below w.heap.size w w' := by
  unfold value_fold_int64_int64__value_times_2.f at h
  split at h
  case isFalse => exact absurd h (by simp)
  rename_i hg
  obtain ⟨hk, ha, hlen⟩ := hg
  obtain ⟨i0, hi, hz0, hz1, hz2⟩ := info_parts (show (Star.prog.info? 2).map (fun i => (i.zero, i.size, i.bytes)) = some (some (.int .i64 0), 1, 8) from by kernel_rfl)
  have hrd : ∀ j, j < l0.length → ∃ ad : Addr, A0 = some ad ∧ (ad.add j).block < w.heap.size ∧ w.cell? (ad.add j) = some (.int .i64 (l0[j]?.getD 0)) := fun j hj => by
    obtain ⟨ad, e, hcell⟩ := Kd.at_int hr0 (j : Int) (by omega) (by omega)
    have hcell' : w.cell? (ad.add j) = some (.int .i64 (l0[j]?.getD 0)) := by
      rw [Int.toNat_natCast] at hcell
      rw [hcell]
      unfold rd
      rw [Int.toNat_natCast, List.getD_eq_getElem?_getD]
    exact ⟨ad, e, World.block_lt_of_cell? w _ hcell', hcell'⟩
  clear hr0
  obtain ⟨N, hN⟩ : ∃ N : Nat, N = w.heap.size := ⟨_, rfl⟩
  refine (callsIn_wide (n := 8)).1 ?_
  refine callsIn_of_wp_marks Star.func61 rfl trivial ?_ rfl
  simp only [Try.ntmps61, List.size_toArray, List.length_cons, List.length_nil, Nat.reduceAdd, Nat.reduceSub, Array.replicate_succ, Array.replicate_zero, List.push_toArray, List.append_toArray, List.nil_append, List.cons_append]
  have g0 := blk_lt hgc2_0
  have g1 := blk_lt hgc2_1
  gi_wp2_with (refine ⟨trivial, ?_⟩; gi_at_call 79; refine (slices_Backward.run Fence.wide _ trivial rfl _ _ _ _).mono ?_; rintro e w' ⟨rfl, rfl⟩)
  have b0 := Boxed.new w 71 (.func (.func 62) #[] #[.pointer (some ⟨gc2_0, 0, none⟩), .pointer (some ⟨gc2_1, 0, none⟩)])
  have y0 := below_alloc (Below.refl w.heap.size w) (.cells #[.func (.func 62) #[] #[.pointer (some ⟨gc2_0, 0, none⟩), .pointer (some ⟨gc2_1, 0, none⟩)]] 71)
  have s0 := World.size_alloc w (.cells #[.func (.func 62) #[] #[.pointer (some ⟨gc2_0, 0, none⟩), .pointer (some ⟨gc2_1, 0, none⟩)]] 71)
  generalize w.alloc (.cells #[.func (.func 62) #[] #[.pointer (some ⟨gc2_0, 0, none⟩), .pointer (some ⟨gc2_1, 0, none⟩)]] 71) = w0 at *
  have b1 := Boxed.new w0 22 (.slice none 0 0)
  have y1 := below_alloc y0 (.cells #[.slice none 0 0] 22)
  have s1 := World.size_alloc w0 (.cells #[.slice none 0 0] 22)
  replace b0 := b0.alloc (.cells #[.slice none 0 0] 22)
  generalize w0.alloc (.cells #[.slice none 0 0] 22) = w1 at *
  have b2 := Boxed.new w1 24 (.int .i64 0)
  have y2 := below_alloc y1 (.cells #[.int .i64 0] 24)
  have s2 := World.size_alloc w1 (.cells #[.int .i64 0] 24)
  replace b0 := b0.alloc (.cells #[.int .i64 0] 24)
  replace b1 := b1.alloc (.cells #[.int .i64 0] 24)
  generalize w1.alloc (.cells #[.int .i64 0] 24) = w2 at *
  have b3 : (w2.alloc (.cells #[.int .i64 a1] 2)).ownsRow N 2 1 (.slice (some ⟨w2.heap.size, 0, none⟩) 1 1) 1 [.int .i64 a1] := by
    have h := World.ownsRow_lit (base := N) (e := 2) (size := 1) w2 #[.int .i64 a1] 1 (by omega) (by decide) (by simp)
    simpa using h
  have y3 := below_alloc y2 (.cells #[.int .i64 a1] 2)
  have s3 := World.size_alloc w2 (.cells #[.int .i64 a1] 2)
  replace b0 := b0.alloc (.cells #[.int .i64 a1] 2)
  replace b1 := b1.alloc (.cells #[.int .i64 a1] 2)
  replace b2 := b2.alloc (.cells #[.int .i64 a1] 2)
  generalize w2.alloc (.cells #[.int .i64 a1] 2) = w3 at *
  rw [show w2.heap.size = w.heap.size + 1 + 1 + 1 by omega] at b3
  rw [show w0.heap.size = w.heap.size + 1 by omega] at b1
  rw [show w1.heap.size = w.heap.size + 1 + 1 by omega] at b2
  have b4 := Boxed.new w3 22 (.slice (some ⟨w.heap.size + 1 + 1 + 1, 0, none⟩) 1 1)
  have y4 := below_alloc y3 (.cells #[.slice (some ⟨w.heap.size + 1 + 1 + 1, 0, none⟩) 1 1] 22)
  have s4 := World.size_alloc w3 (.cells #[.slice (some ⟨w.heap.size + 1 + 1 + 1, 0, none⟩) 1 1] 22)
  replace b0 := b0.alloc (.cells #[.slice (some ⟨w.heap.size + 1 + 1 + 1, 0, none⟩) 1 1] 22)
  replace b1 := b1.alloc (.cells #[.slice (some ⟨w.heap.size + 1 + 1 + 1, 0, none⟩) 1 1] 22)
  replace b2 := b2.alloc (.cells #[.slice (some ⟨w.heap.size + 1 + 1 + 1, 0, none⟩) 1 1] 22)
  replace b3 := b3.alloc (.cells #[.slice (some ⟨w.heap.size + 1 + 1 + 1, 0, none⟩) 1 1] 22)
  generalize w3.alloc (.cells #[.slice (some ⟨w.heap.size + 1 + 1 + 1, 0, none⟩) 1 1] 22) = w4 at *
  rw [show w3.heap.size = w.heap.size + 1 + 1 + 1 + 1 by omega] at b4
  have b5 := Boxed.new w4 22 (.slice A0 l0.length c0)
  have y5 := below_alloc y4 (.cells #[.slice A0 l0.length c0] 22)
  have s5 := World.size_alloc w4 (.cells #[.slice A0 l0.length c0] 22)
  replace b0 := b0.alloc (.cells #[.slice A0 l0.length c0] 22)
  replace b1 := b1.alloc (.cells #[.slice A0 l0.length c0] 22)
  replace b2 := b2.alloc (.cells #[.slice A0 l0.length c0] 22)
  replace b3 := b3.alloc (.cells #[.slice A0 l0.length c0] 22)
  replace b4 := b4.alloc (.cells #[.slice A0 l0.length c0] 22)
  generalize w4.alloc (.cells #[.slice A0 l0.length c0] 22) = w5 at *
  rw [show w4.heap.size = w.heap.size + 1 + 1 + 1 + 1 + 1 by omega] at b5
  have sz : w5.heap.size = N + 1 + 1 + 1 + 1 + 1 + 1 := by omega
  clear y0 y1 y2 y3 y4 s0 s1 s2 s3 s4 s5
  have HN := Aside0.mk hN
  rw [← hN] at b0 b1 b2 b3 b4 b5 y5 g0 g1 ⊢
  rw [← hN] at hrd
  have hNW : N ≤ w.heap.size := by omega
  clear hN
  have hmx : Star.prog.follows .mixedOrders = true := by kernel_rfl
  refine wpIn_rangeFunc_ownG (F := Fence.wide) rfl (by omega) (gf := 93) (lb := #[.pointer (some ⟨N + 1 + 1 + 1 + 1 + 1, 0, none⟩)]) rfl trivial (enters_of Star.func93 (by kernel_rfl) rfl)
    (slices_Backward_1.stops Fence.wide _ trivial rfl (by omega) (N + 1 + 1 + 1 + 1 + 1) N A0 c0 l0 hlen w5 (by omega) b5 (fun j hj => by
      obtain ⟨ad, e, h1, h2⟩ := hrd j hj
      exact ⟨ad, e, h1, (y5.cell (p := ad.add j) h1).trans h2⟩)) KpB.trans (fun W l o o' => KpB.put (by omega) W l o o') (Below.refl _ _) (fun _ => rfl)
    (fun (pre : List (Int × Int)) W => (∃ v, Boxed W (N + 1 + 1 + 1 + 1) 22 v ∧ W.ownsRow N 2 1 v (pre.length + 1) ((value_fold.runs a2_0_0 a2_1_0 a1 (pre.map (·.2))).1.map (Value.int .i64)) ∧ True) ∧ (value_fold.runs a2_0_0 a2_1_0 a1 (pre.map (·.2))).2 = 0 ∧ Boxed W N 71 (.func (.func 62) #[] #[.pointer (some ⟨gc2_0, 0, none⟩), .pointer (some ⟨gc2_1, 0, none⟩)]) ∧ Boxed W (N + 1) 22 (.slice none 0 0) ∧ Boxed W (N + 1 + 1) 24 (.int .i64 0) ∧ Boxed W (N + 1 + 1 + 1 + 1 + 1) 22 (.slice A0 l0.length c0) ∧ Below N w W)
    (fun c (pre : List (Int × Int)) W => c = .ret ∧ (∃ ini x, pre = ini ++ [x] ∧ (value_fold.runs a2_0_0 a2_1_0 a1 (ini.map (·.2))).2 = 0 ∧ (value_fold.runs a2_0_0 a2_1_0 a1 (pre.map (·.2))).2 ≠ 0) ∧ Boxed W (N + 1) 22 (.slice none 0 0) ∧ Boxed W (N + 1 + 1) 24 (.int .i64 (value_fold.runs a2_0_0 a2_1_0 a1 (pre.map (·.2))).2) ∧ Below N w W)
    (OwnFrom.and (Own.from (holdsRow_own N (N + 1 + 1 + 1 + 1) 22 2 1 (fun pre : List (Int × Int) => pre.length + 1) (fun pre : List (Int × Int) => (value_fold.runs a2_0_0 a2_1_0 a1 (pre.map (·.2))).1.map (Value.int .i64)) (fun _ _ => True)) _) (OwnFrom.and (ownFrom_pure _ _) (OwnFrom.and (Own.from (boxed_own _ _ _) _) (OwnFrom.and (Own.from (boxed_own _ _ _) _) (OwnFrom.and (Own.from (boxed_own _ _ _) _) (OwnFrom.and (Own.from (boxed_own _ _ _) _) (ownFrom_below (by omega) (by omega))))))))
    (fun c => OwnFrom.and (ownFrom_pure _ _) (OwnFrom.and (ownFrom_pure _ _) (OwnFrom.and (Own.from (boxed_own _ _ _) _) (OwnFrom.and (Own.from (boxed_own _ _ _) _) (ownFrom_below (by omega) (by omega))))))
    ⟨⟨_, b4, b3, trivial⟩, rfl, b0, b1, b2, b5, y5⟩
    (fun x => { tmps := #[.slice A0 l0.length c0, .int .i64 a1, .func (.func 62) #[] #[.pointer (some ⟨gc2_0, 0, none⟩), .pointer (some ⟨gc2_1, 0, none⟩)], undef, undef, .pointer (some ⟨N, 0, none⟩), .pointer (some ⟨N + 1, 0, none⟩), .pointer (some ⟨N + 1 + 1, 0, none⟩), .pointer (some ⟨N + 1 + 1 + 1 + 1, 0, none⟩), undef, .int .i64 x.2, undef, undef, .int .i64 a1, .slice (some ⟨N + 1 + 1 + 1, 0, none⟩) 1 1, .slice A0 l0.length c0, .func (.func 93) #[] #[.pointer (some ⟨N + 1 + 1 + 1 + 1 + 1, 0, none⟩)], .int .i64 x.1, .int .i64 x.2, undef, undef, undef, undef, undef, undef, undef, undef, undef, undef, undef, undef, undef, undef, undef, undef, undef, undef, undef, undef, undef, undef], defers := [] }) ?assign ?body ?done ?stop
  case assign =>
    intro l x W K hK
    gi_wp2
    exact hK
  case body =>
    rintro l pre x W ⟨⟨v, hv, hrow, _⟩, hok, hf0, hf1, hf2, hf5, hB⟩ hlt
    have hNW' : N ≤ W.heap.size := Nat.le_trans hNW hB.size
    have wc0 : W.heap[gc2_0]? = some (.cells #[.int .i64 a2_0_0] 2 (0, 0)) := (hB.block gc2_0 g0).trans hgc2_0
    have wc1 : W.heap[gc2_1]? = some (.cells #[.int .i64 a2_1_0] 2 (0, 0)) := (hB.block gc2_1 g1).trans hgc2_1
    obtain ⟨g, cap, rfl⟩ := ownsRow_succ hrow
    have hlen2 := value_fold.runs_length a2_0_0 a2_1_0 a1 (pre.map (·.2))
    have hl64 := value_fold.last_i64 a2_0_0 a2_1_0 a1 ha (pre.map (·.2))
    have hst := value_fold.step (by_ := a2_0_0) (r := a2_1_0) (x := x.2) hl64 (k := k) (by omega)
    have hnext := value_fold.runs_snoc a2_0_0 a2_1_0 a1 (pre.map (·.2)) x.2
    rw [List.length_map] at hlen2
    generalize hS : value_fold.runs a2_0_0 a2_1_0 a1 (pre.map (·.2)) = S at *
    have hel : W.cell? ⟨g, pre.length, none⟩ = some (.int .i64 (value_fold.last S.1)) := by
      rw [value_fold.row_at hrow pre.length (by omega)]
      unfold value_fold.last rd
      rw [hlen2, show (((pre.length + 1 : Nat) : Int) - 1).toNat = pre.length by omega, List.getD_eq_getElem?_getD]
    have q0 := hf0.cell
    have q8 := hv.cell
    have CT := fun W0 h0 h1 => value_times_2.calls k x.2 (value_fold.last S.1) gc2_0 a2_0_0 gc2_1 a2_1_0 (value_fold.stepv a2_0_0 a2_1_0 x.2 (value_fold.last S.1)).1 (value_fold.stepv a2_0_0 a2_1_0 x.2 (value_fold.last S.1)).2 W0 h0 h1 hst
    obtain ⟨⟨s1, s2⟩, hsv⟩ : ∃ sv, sv = value_fold.stepv a2_0_0 a2_1_0 x.2 (value_fold.last S.1) := ⟨_, rfl⟩
    rw [← hsv] at CT
    dsimp only at CT
    obtain ⟨xi, xv⟩ := x
    have HNX : Aside0 (value_fold.runs a2_0_0 a2_1_0 a1 ((pre ++ [(xi, xv)]).map (·.2)) = (S.1 ++ [s1], s2)) := Aside0.mk (by
      rw [List.map_append]
      simp only [List.map_cons, List.map_nil]
      rw [hnext]
      unfold value_fold.next
      rw [← hsv, if_pos hok])
    have HS := Aside0.mk hS
    clear hsv hnext hS
    obtain ⟨lv, hlv⟩ : ∃ lv, lv = value_fold.last S.1 := ⟨_, rfl⟩
    rw [← hlv] at CT hel
    obtain ⟨m, hm⟩ : ∃ m, m = pre.length := ⟨_, rfl⟩
    rw [← hm] at hel q8 hrow hv
    have HM := Aside0.mk hm
    have hm9 : m ≤ 1000000000 := by omega
    have HOK := Aside0.mk hok
    clear hst hm hlt hl64 hlen2 hlv hok
    gi_wp2
    have ix : ∀ W1 : World, (execOp (fun x => match x with | .tmp 22 => (.slice (some ⟨g, 0, none⟩) (m + 1) cap : Value) | _ => .int .i64 (m : Int)) { dst := some 26, op := Op.indexAddr 22 (Operand.tmp 22) (Operand.tmp 25), type := 0, pos := "", after := #[], guard := none }).run Star.prog W1 = .ok (.value (.pointer (some ⟨g, m, none⟩))) W1 := fun W1 => by
      have nm : ((m : Int) < (m : Int) + 1) = True := eq_true (by omega)
      go_simp
    refine region_lone (S := fun W1 => W1.cell? ⟨N, 0, none⟩ = some (.func (.func 62) #[] #[.pointer (some ⟨gc2_0, 0, none⟩), .pointer (some ⟨gc2_1, 0, none⟩)]) ∧ W1.cell? ⟨N + 1 + 1 + 1 + 1, 0, none⟩ = some (.slice (some ⟨g, 0, none⟩) (m + 1) cap) ∧ W1.cell? ⟨g, m, none⟩ = some (.int .i64 lv)) (by kernel_rfl) (by kernel_rfl) (fun ⟨_, _, h⟩ => h) ?_
    have hS0 : ({ W with drawn := W.drawn + 1 } : World).cell? ⟨N, 0, none⟩ = some (.func (.func 62) #[] #[.pointer (some ⟨gc2_0, 0, none⟩), .pointer (some ⟨gc2_1, 0, none⟩)]) ∧ ({ W with drawn := W.drawn + 1 } : World).cell? ⟨N + 1 + 1 + 1 + 1, 0, none⟩ = some (.slice (some ⟨g, 0, none⟩) (m + 1) cap) ∧ ({ W with drawn := W.drawn + 1 } : World).cell? ⟨g, m, none⟩ = some (.int .i64 lv) := ⟨q0, q8, hel⟩
    refine wpAnyH_take (i := 0) (v := .func (.func 62) #[] #[.pointer (some ⟨gc2_0, 0, none⟩), .pointer (some ⟨gc2_1, 0, none⟩)]) rfl (by kernel_rfl) (by kernel_rfl) (by kernel_rfl) (fun _ _ _ h => h) (Or.inl ⟨by rfl, fun W1 hS => by obtain ⟨s0, s8, se⟩ := hS; go_simp⟩) hS0 ?_
    refine wpAnyH_take (i := 1) (v := .int .i64 xv) rfl (by kernel_rfl) (by kernel_rfl) (by kernel_rfl) (fun _ _ _ h => h) (Or.inl ⟨by rfl, fun W1 hS => by go_simp⟩) hS0 ?_
    refine wpAnyH_take (i := 2) (v := .slice (some ⟨g, 0, none⟩) (m + 1) cap) rfl (by kernel_rfl) (by kernel_rfl) (by kernel_rfl) (fun _ _ _ h => h) (Or.inl ⟨by rfl, fun W1 hS => by obtain ⟨s0, s8, se⟩ := hS; go_simp⟩) hS0 ?_
    refine wpAnyH_take (i := 3) (v := .slice (some ⟨g, 0, none⟩) (m + 1) cap) rfl (by kernel_rfl) (by kernel_rfl) (by kernel_rfl) (fun _ _ _ h => h) (Or.inl ⟨by rfl, fun W1 hS => by obtain ⟨s0, s8, se⟩ := hS; go_simp⟩) hS0 ?_
    refine wpAnyH_take (i := 4) (v := .int .i64 ((m : Int) + 1)) rfl (by kernel_rfl) (by kernel_rfl) (by kernel_rfl) (fun _ _ _ h => h) (Or.inl ⟨by rfl, fun W1 hS => by go_simp⟩) hS0 ?_
    refine wpAnyH_take (i := 5) (v := .int .i64 (m : Int)) rfl (by kernel_rfl) (by kernel_rfl) (by kernel_rfl) (fun _ _ _ h => h) (Or.inl ⟨by rfl, fun W1 hS => by go_simp; simp only [i64_w]; unfold wrap64; omega⟩) hS0 ?_
    refine wpAnyH_take (i := 6) (v := .pointer (some ⟨g, m, none⟩)) rfl (by kernel_rfl) (by kernel_rfl) (by kernel_rfl) (fun _ _ _ h => h) (Or.inl ⟨by rfl, fun W1 hS => by exact ix W1⟩) hS0 ?_
    refine wpAnyH_take (i := 7) (v := .int .i64 lv) rfl (by kernel_rfl) (by kernel_rfl) (by kernel_rfl) (fun _ _ _ h => h) (Or.inl ⟨by rfl, fun W1 hS => by obtain ⟨s0, s8, se⟩ := hS; go_simp⟩) hS0 ?_
    refine region_norm (a' := { tmps := #[.slice A0 l0.length c0, .int .i64 a1, .func (.func 62) #[] #[.pointer (some ⟨gc2_0, 0, none⟩), .pointer (some ⟨gc2_1, 0, none⟩)], undef, undef, .pointer (some ⟨N, 0, none⟩), .pointer (some ⟨N + 1, 0, none⟩), .pointer (some ⟨N + 1 + 1, 0, none⟩), .pointer (some ⟨N + 1 + 1 + 1 + 1, 0, none⟩), undef, .int .i64 xv, undef, undef, .int .i64 a1, .slice (some ⟨N + 1 + 1 + 1, 0, none⟩) 1 1, .slice A0 l0.length c0, .func (.func 93) #[] #[.pointer (some ⟨N + 1 + 1 + 1 + 1 + 1, 0, none⟩)], .int .i64 xi, .int .i64 xv, undef, .func (.func 62) #[] #[.pointer (some ⟨gc2_0, 0, none⟩), .pointer (some ⟨gc2_1, 0, none⟩)], .int .i64 xv, .slice (some ⟨g, 0, none⟩) (m + 1) cap, .slice (some ⟨g, 0, none⟩) (m + 1) cap, .int .i64 ((m : Int) + 1), .int .i64 (m : Int), .pointer (some ⟨g, m, none⟩), .int .i64 lv, undef, undef, undef, undef, undef, undef, undef, undef, undef, undef, undef, undef, undef], defers := [] }) (by kernel_rfl) ?_
    refine wpAnyH_all (rs := [8]) (by kernel_rfl) (by simp) ?_
    intro i hi8
    obtain rfl : i = 8 := by simpa using hi8
    refine region_callV #[.pointer (some ⟨gc2_0, 0, none⟩), .pointer (some ⟨gc2_1, 0, none⟩)] rfl rfl Star.func62 (by kernel_rfl) rfl #[.int .i64 xv, .int .i64 lv, .pointer (some ⟨gc2_0, 0, none⟩), .pointer (some ⟨gc2_1, 0, none⟩)] rfl rfl (by simp only [List.map_toArray, List.map_cons, List.map_nil]; rfl) ((CT { W with drawn := W.drawn + 1 } (by exact wc0) (by exact wc1)).mono ?_)
    rintro e W2 ⟨rfl, hb2⟩
    replace hb2 : Below W.heap.size W W2 := ⟨hb2.os, hb2.tape, hb2.output, hb2.size, hb2.block⟩
    have hv' : Boxed W2 (N + 1 + 1 + 1 + 1) _ _ := (hb2.block _ hv.lt).trans hv
    have hf0' : Boxed W2 N _ _ := (hb2.block _ hf0.lt).trans hf0
    have hf1' : Boxed W2 (N + 1) _ _ := (hb2.block _ hf1.lt).trans hf1
    have hf2' : Boxed W2 (N + 1 + 1) _ _ := (hb2.block _ hf2.lt).trans hf2
    have hf5' : Boxed W2 (N + 1 + 1 + 1 + 1 + 1) _ _ := (hb2.block _ hf5.lt).trans hf5
    have hrow2 := pw_own_below hrow hb2
    have hB2 : Below N w W2 := hB.trans (hb2.mono hNW')
    have hN2 : N ≤ W2.heap.size := Nat.le_trans hNW hB2.size
    have hbN : Below N W W2 := hb2.mono hNW'
    have hkp2 : KeepsFrom w5.heap.size W W2 := value_fold.keeps hb2
    have hel2 := (hb2.cell (p := ⟨g, m, none⟩) (World.block_lt_of_cell? _ _ hel)).trans hel
    have hS2 : W2.cell? ⟨N, 0, none⟩ = some (.func (.func 62) #[] #[.pointer (some ⟨gc2_0, 0, none⟩), .pointer (some ⟨gc2_1, 0, none⟩)]) ∧ W2.cell? ⟨N + 1 + 1 + 1 + 1, 0, none⟩ = some (.slice (some ⟨g, 0, none⟩) (m + 1) cap) ∧ W2.cell? ⟨g, m, none⟩ = some (.int .i64 lv) := ⟨hf0'.cell, hv'.cell, hel2⟩
    refine ⟨_, rfl, hS2, ?_⟩
    clear CT ix hS0 q0 q8 hel wc0 wc1
    refine wpAnyH_take (i := 9) (v := .tuple #[.int .i64 s1, .int .i64 s2]) rfl (by kernel_rfl) (by kernel_rfl) (by kernel_rfl) (fun _ _ _ h => h) (Or.inl ⟨by rfl, fun W1 hS => by go_simp⟩) hS2 ?_
    refine wpAnyH_take (i := 10) (v := .int .i64 s1) rfl (by kernel_rfl) (by kernel_rfl) (by kernel_rfl) (fun _ _ _ h => h) (Or.inl ⟨by rfl, fun W1 hS => by go_simp⟩) hS2 ?_
    refine wpAnyH_take (i := 11) (v := .int .i64 s2) rfl (by kernel_rfl) (by kernel_rfl) (by kernel_rfl) (fun _ _ _ h => h) (Or.inl ⟨by rfl, fun W1 hS => by go_simp⟩) hS2 ?_
    refine wpAnyH_take (i := 12) (v := .int .i64 s1) rfl (by kernel_rfl) (by kernel_rfl) (by kernel_rfl) (fun _ _ _ h => h) (Or.inl ⟨by rfl, fun W1 hS => by go_simp⟩) hS2 ?_
    refine wpAnyH_take (i := 13) (v := .int .i64 s2) rfl (by kernel_rfl) (by kernel_rfl) (by kernel_rfl) (fun _ _ _ h => h) (Or.inl ⟨by rfl, fun W1 hS => by go_simp⟩) hS2 ?_
    refine region_norm (a' := { tmps := #[.slice A0 l0.length c0, .int .i64 a1, .func (.func 62) #[] #[.pointer (some ⟨gc2_0, 0, none⟩), .pointer (some ⟨gc2_1, 0, none⟩)], undef, undef, .pointer (some ⟨N, 0, none⟩), .pointer (some ⟨N + 1, 0, none⟩), .pointer (some ⟨N + 1 + 1, 0, none⟩), .pointer (some ⟨N + 1 + 1 + 1 + 1, 0, none⟩), undef, .int .i64 xv, .int .i64 s1, .int .i64 s2, .int .i64 a1, .slice (some ⟨N + 1 + 1 + 1, 0, none⟩) 1 1, .slice A0 l0.length c0, .func (.func 93) #[] #[.pointer (some ⟨N + 1 + 1 + 1 + 1 + 1, 0, none⟩)], .int .i64 xi, .int .i64 xv, .tuple #[.int .i64 s1, .int .i64 s2], .func (.func 62) #[] #[.pointer (some ⟨gc2_0, 0, none⟩), .pointer (some ⟨gc2_1, 0, none⟩)], .int .i64 xv, .slice (some ⟨g, 0, none⟩) (m + 1) cap, .slice (some ⟨g, 0, none⟩) (m + 1) cap, .int .i64 ((m : Int) + 1), .int .i64 (m : Int), .pointer (some ⟨g, m, none⟩), .int .i64 lv, .tuple #[.int .i64 s1, .int .i64 s2], .int .i64 s1, .int .i64 s2, undef, undef, undef, undef, undef, undef, undef, undef, undef, undef], defers := [] }) (by kernel_rfl) ?_
    refine wpAnyH_done (by kernel_rfl) ?_ _
    by_cases hz : s2 = 0
    · subst hz
      have c8 := hv'.cell
      clear hS2 hel2 hb2 hB hrow hv hf0 hf1 hf2
      gi_wp2_with (gi_at_builtin; refine wpListIn_append_own _ rfl _ _ 22 rfl N 2 i0 (.int .i64 0) 1 8 Star.underlying22 hi hz0 hz1 hz2 rfl (by decide) _ _ _ rfl (hrow2.alloc _) ⟨W2.heap.size, 0, none⟩ 1 1 [.int .i64 s1] rfl rfl (cell_one_new _ _ _) (by simp [Value.oneCell']) (Nat.le_trans (show m + 1 + 1 ≤ 1000000002 by omega) (by decide)) (by omega) (by simp; omega) ?_; intro v' w1 hown' hgrow _; obtain ⟨g', cap', rfl⟩ := ownsRow_succ hown'; obtain ⟨hv1, hv2, hr2, hk2, hb3⟩ := hv'.appended (by decide) hrow2 hN2 (by omega) hown' hgrow; have hc1 := hv1.cell; have hf1 := hv1.frozen)
      replace hgrow : (W2.alloc (.cells #[.int .i64 s1] 2)).grownBy w1 (Value.ownBlock (.slice (some ⟨g, 0, none⟩) (m + 1) cap)) := hgrow
      have kb : ∀ {B : Nat} {t : TypeId} {u : Value}, Boxed W2 B t u → t ≠ 2 → B ≠ N + 1 + 1 + 1 + 1 → Boxed (w1.setCell ⟨N + 1 + 1 + 1 + 1, 0, none⟩ (.slice (some ⟨g', 0, none⟩) (m + 1 + 1) cap')) B t u := fun h ht hB' => ((h.alloc _).kept hgrow (h.not_row ht hrow2)).other hB' _
      have e1 : (pre ++ [(xi, xv)]).length + 1 = m + 1 + 1 := by rw [List.length_append, HM.out]; rfl
      have e2 : (value_fold.runs a2_0_0 a2_1_0 a1 ((pre ++ [(xi, xv)]).map (·.2))).1.map (Value.int .i64) = S.1.map (Value.int .i64) ++ [Value.int .i64 s1] := by rw [HNX.out, List.map_append]; rfl
      exact ⟨hkp2.trans (hk2.from _), ⟨hbN.trans hb3, fun cs T e => (kb hf5' (by decide) (by omega)).trans (Eq.trans (Eq.symm hf5) e)⟩, ⟨_, hv2, by rw [e1, e2]; exact hr2, trivial⟩, by rw [HNX.out], kb hf0' (by decide) (by omega), kb hf1' (by decide) (by omega), kb hf2' (by decide) (by omega), kb hf5' (by decide) (by omega), hB2.trans hb3⟩
    · have nz : (s2 != 0) = true := by simp [hz]
      have c1 := hf1'.cell
      have z1 := hf1'.frozen
      have c2 := hf2'.cell
      have z2 := hf2'.frozen
      clear hS2 hel2 hb2 hB hrow hv hf0 hf1 hf2 hf5
      gi_wp2
      refine ⟨hkp2.trans (((KeepsOthers.setCell _ _ _).from _).trans ((KeepsOthers.setCell _ _ _).from _)), rfl, ⟨pre, (xi, xv), rfl, by rw [HS.out]; exact HOK.out, by rw [HNX.out]; exact hz⟩, (hf1'.set _).other (by omega) _, ?_, (hB2.setCell (by show N ≤ N + 1; omega) _).setCell (by show N ≤ N + 1 + 1; omega) _⟩
      rw [HNX.out]
      exact (hf2'.other (by omega) _).set _
  case done =>
    rintro D ys W hD rfl ⟨⟨v, hv, hrow, _⟩, hok, hf0, hf1, hf2, hf5, hB⟩ hK
    obtain ⟨g, cap, rfl⟩ := ownsRow_succ hrow
    rw [backAt_all] at hrow hok
    rw [seqUpto_length] at hrow hv
    have hlr := value_fold.runs_length a2_0_0 a2_1_0 a1 l0.reverse
    rw [List.length_reverse] at hlr
    unfold value_fold.all at h
    rw [if_pos hok] at h
    generalize value_fold.runs a2_0_0 a2_1_0 a1 l0.reverse = S at *
    obtain ⟨s, hs, hres⟩ := Option.bind_eq_some_iff.1 h
    obtain ⟨rfl, rfl⟩ : s = r1 ∧ 0 = r2 := by simpa using hres
    have hR0 : Kd.R (Kd.int .i64) 2 W w.heap.size (fun k_ => some k_ = Value.ownBlock (.slice (some ⟨g, 0, none⟩) (l0.length + 1) cap)) (.slice (some ⟨g, 0, none⟩) (l0.length + 1) cap) S.1 := Kd.R_of_own (by rw [hlr, ← HN.out]; exact hrow) (fun k hk => hk.symm)
    have hBw : Below w.heap.size w W := by rw [← HN.out]; exact hB
    have hND : w.heap.size ≤ D := by have := HN.out; omega
    have c8 := hv.cell
    have hD1 : D ≠ N + 1 := by omega
    have hD2 : D ≠ N + 1 + 1 := by omega
    clear h hres hlr hok
    gi_wp2_with (refine ⟨trivial, ?_⟩; gi_at_call 80; refine (callsIn_wide.2 (slices_Reverse_int64_int64.calls k _ _ S.1 s w W hBw hR0 hs)).mono ?_; rintro e W3 ⟨rfl, hR3, hb3, hk3⟩; have hv3 : Boxed W3 (N + 1 + 1 + 1 + 1) _ _ := (hk3.2 _ hv.lt (fun e => hv.not_row (by decide) hrow e)).trans hv; have hf13 : Boxed W3 (N + 1) _ _ := (hk3.2 _ hf1.lt (fun e => hf1.not_row (by decide) hrow e)).trans hf1; have hf23 : Boxed W3 (N + 1 + 1) _ _ := (hk3.2 _ hf2.lt (fun e => hf2.not_row (by decide) hrow e)).trans hf2; have hK3 : W3.heap[D]? = some (.deferred (some [])) := (hk3.2 D (Array.getElem?_eq_some_iff.1 hK).1 (fun e => value_fold.no_row hK rfl hrow e)).trans hK; clear c8; have c8 := hv3.cell; have c1 := hf13.cell; have z1 := hf13.frozen; have c2 := hf23.cell; have z2 := hf23.frozen)
    have hK4 : ((W3.setCell ⟨N + 1, 0, none⟩ (.slice (some ⟨g, 0, none⟩) (l0.length + 1) cap)).setCell ⟨N + 1 + 1, 0, none⟩ (.int .i64 0)).heap[D]? = some (.deferred (some [])) := (Below.heap_setCell _ _ _ _ hD2).trans ((Below.heap_setCell _ _ _ _ hD1).trans hK3)
    refine ⟨by simp, .inl ⟨_, _, rfl, run_takeDeferred hK4, ?_⟩⟩
    have x1 := value_fold.put_cell (o' := .deferred none) hK4 rfl ((hf13.set (.slice (some ⟨g, 0, none⟩) (l0.length + 1) cap)).other (B' := N + 1 + 1) (by omega) (.int .i64 0)).cell
    have x2 := value_fold.put_cell (o' := .deferred none) hK4 rfl ((hf23.other (B' := N + 1) (by omega) (.slice (some ⟨g, 0, none⟩) (l0.length + 1) cap)).set (.int .i64 0)).cell
    have o3 := Kd.own_of_R hR3
    refine ⟨.tuple #[.slice (some ⟨g, 0, none⟩) (l0.length + 1) cap, .int .i64 0], ?_, _, rfl, Kd.R_of_own (ownsRow_putObj ((o3.kept (grownBy_setCell' W3 (N + 1) _) (.inr (hf13.not_row (by decide) o3).symm)).kept (grownBy_setCell' _ (N + 1 + 1) _) (.inr (hf23.not_row (by decide) o3).symm)) _ hK4 rfl) (fun _ _ => trivial), ?_⟩
    · simp [results, Try.f61, go_sem, x1, x2]
    · have hN1 : w.heap.size ≤ N + 1 := by have := HN.out; omega
      exact (((hb3.setCell (p := ⟨N + 1, 0, none⟩) hN1 _).setCell (p := ⟨N + 1 + 1, 0, none⟩) (Nat.le_succ_of_le hN1) _).trans (belowK_b (w := w) (Nat.le_refl _) _ D _ _ hND hK4 rfl rfl))
  case stop =>
    rintro D c pre W hD ⟨k2, hk2, rfl⟩ ⟨rfl, ⟨ini, x, hpre, hok, herr⟩, hf1, hf2, hB⟩ hK
    rw [backAt_take l0 k2 hk2] at herr hf2
    have hall := value_fold.runs_err a2_0_0 a2_1_0 a1 (l0.reverse.take k2) (l0.reverse.drop k2) herr
    rw [List.take_append_drop] at hall
    unfold value_fold.all at h
    rw [if_neg (by rw [hall]; exact herr), hall] at h
    generalize value_fold.runs a2_0_0 a2_1_0 a1 (l0.reverse.take k2) = S at *
    obtain ⟨rfl, rfl⟩ : [] = r1 ∧ S.2 = r2 := by simpa using h
    have hBw : Below w.heap.size w W := by rw [← HN.out]; exact hB
    have hND : w.heap.size ≤ D := by have := HN.out; omega
    clear h hall hpre hok
    gi_wp2
    refine ⟨by simp, .inl ⟨_, _, rfl, run_takeDeferred hK, ?_⟩⟩
    have x1 := value_fold.put_cell (o' := .deferred none) hK rfl hf1.cell
    have x2 := value_fold.put_cell (o' := .deferred none) hK rfl hf2.cell
    refine ⟨.tuple #[.slice none 0 0, .int .i64 S.2], ?_, _, rfl, Kd.R_of_own (World.ownsRow_nil _ _ _ _) (fun _ _ => trivial), hBw.trans (belowK_b (w := w) (Nat.le_refl _) _ D _ _ hND hK rfl rfl)⟩
    simp [results, Try.f61, go_sem, x1, x2]
end
end Go.Proofs.Ytjgleaakgbnjgaa.S
end

section
namespace Go.Proofs.Ytjgleaakgbnjgaa.S
open Go.RowKit Go.Proofs.YtjgleaakgbnjgaaW.PrintWords Go.Proofs.YtjgleaakgbnjgaaW.PrintLast Go.Proofs.YtjgleaakgbnjgaaW.PrintMore
attribute [local go_sem] max2_int min2_int max_two min_two max_three min_three max_four min_four
attribute [local go_sem] XWalk.cell2
def value_times.f (k : Nat) (l0 : List Int) (a1 : Int) (a2 : Int) : Option (List Int × Int) := if (l0.length : Int) > 600 then (some (([] : List Int), 10)) else ((slices_ContainsFunc_int64_int64__value_times_1.f k l0).bind fun t158 => (if t158 = true then (some (([] : List Int), 2)) else ((rate_May.f a1).bind fun t159 => (if t159 = true then ((value_fold_int64_int64__value_times_2.f k l0 0 a2 a1).bind fun bt160 => (some (bt160.1, bt160.2))) else (some (([] : List Int), 2))))))
set_option maxHeartbeats 8000000 in
set_option maxRecDepth 100000 in
theorem value_times.calls (k : Nat) (A0 : Option Addr) (c0 : Nat) (l0 : List Int) (a1 : Int) (a2 : Int) (r1 : List Int) (r2 : Int) (w : World) (hr0 : Kd.C (Kd.int .i64) w A0 l0.length l0) (hc0 : l0.length ≤ c0) (h : value_times.f k l0 a1 a2 = some (r1, r2)) :
  Calls Star.prog 41 #[.slice A0 l0.length c0, .int .i64 a1, .int .i64 a2] w fun e w' => ∃ v0_ : Value, e = .returned (.tuple #[v0_, .int .i64 r2]) ∧ Kd.R (Kd.int .i64) 2 w' w.heap.size (fun _ => True) v0_ r1 ∧ Below w.heap.size w w' := by
 have HR0 := Aside0.mk hr0
 have HC0 := Aside0.mk hc0
 clear hr0 hc0
 have HB := Aside0.mk (Below.refl w.heap.size w)
 have H : (if (l0.length : Int) > 600 then (some (([] : List Int), 10)) else ((slices_ContainsFunc_int64_int64__value_times_1.f k l0).bind fun t158 => (if t158 = true then (some (([] : List Int), 2)) else ((rate_May.f a1).bind fun t159 => (if t159 = true then ((value_fold_int64_int64__value_times_2.f k l0 0 a2 a1).bind fun bt160 => (some (bt160.1, bt160.2))) else (some (([] : List Int), 2))))))) = some (r1, r2) := h
 clear h
 by_cases c4 : (l0.length : Int) > 600
 ·rw [if_pos c4] at H
  have c4b0 : decide (600 < (l0.length : Int)) = true := decide_eq_true c4
  have c4b1 : decide (600 < l0.length) = true := decide_eq_true (by omega)
  clear c4
  simp only [Option.some.injEq, Prod.mk.injEq] at H
  obtain ⟨rfl, rfl⟩ := H
  go_enter Star.func41, Try.ntmps41
  go_wp2_with (first | ((with_reducible refine gate_dst (N := 4) rfl ?_); refine box_event ?hg (N := 4) ?hd (cs := #[.int .i64 a1]) (t := 2) ?hr ?_; (case hd => rfl); (case hg => rfl); (case hr => first | (go_simp; done) | (go_simp; rfl)); intro gb156 hg w5 hbox hb; have n0_ := Aside0.mk (below_step (by repeat (first | (with_reducible first | exact HB.out | apply below_alloc | apply pw_below_drewN | apply below_drew1) | exact HB.out)) hb); have n1_ := Aside0.mk (hbox); have n2_ := Aside0.mk ((by rw [hg]; exact (below_size (by repeat (first | (with_reducible first | exact HB.out | apply below_alloc | apply pw_below_drewN | apply below_drew1) | exact HB.out))) : w.heap.size ≤ gb156)); have n3_ := Aside0.mk ((by rw [hg]; exact (below_size (by repeat (first | (with_reducible first | exact HB.out | apply below_alloc | apply pw_below_drewN | apply below_drew1) | exact HB.out))) : w.heap.size ≤ gb156)); clear HB; have HB := n0_; have BK156 := n1_; have GW156 := n2_; have GE156 := n3_; clear n0_ n1_ n2_ n3_; clear hb hbox hg) | ((with_reducible refine gate_dst (N := 5) rfl ?_); refine box_event ?hg (N := 5) ?hd (cs := #[.int .i64 a2]) (t := 2) ?hr ?_; (case hd => rfl); (case hg => rfl); (case hr => first | (go_simp; done) | (go_simp; rfl)); intro gb157 hg w6 hbox hb; have n0_ := Aside0.mk (blk_below (g := gb156) (o := .cells #[.int .i64 a1] 2 (0, 0)) (by (with_reducible repeat (first | refine blk_drewN ?_ _ | refine blk_drew ?_ | refine blk_alloc ?_ _)); exact BK156.out) hb); have n1_ := Aside0.mk (below_step (by repeat (first | (with_reducible first | exact HB.out | apply below_alloc | apply pw_below_drewN | apply below_drew1 | refine below_set ?_ GE156.out) | exact HB.out)) hb); have n2_ := Aside0.mk (hbox); have n3_ := Aside0.mk ((by rw [hg]; exact (below_size (by repeat (first | (with_reducible first | exact HB.out | apply below_alloc | apply pw_below_drewN | apply below_drew1 | refine below_set ?_ GE156.out) | exact HB.out))) : w.heap.size ≤ gb157)); have n4_ := Aside0.mk ((by rw [hg]; exact (below_size (by repeat (first | (with_reducible first | exact HB.out | apply below_alloc | apply pw_below_drewN | apply below_drew1 | refine below_set ?_ GE156.out) | exact HB.out))) : w.heap.size ≤ gb157)); have n5_ := Aside0.mk ((by rw [hg]; exact Nat.ne_of_lt (blk_lt (g := gb156) (o := .cells #[.int .i64 a1] 2 (0, 0)) (by (with_reducible repeat (first | refine blk_drewN ?_ _ | refine blk_drew ?_ | refine blk_alloc ?_ _)); exact BK156.out)) : gb156 ≠ gb157)); have n6_ := Aside0.mk ((by rw [hg]; exact Nat.ne_of_gt (blk_lt (g := gb156) (o := .cells #[.int .i64 a1] 2 (0, 0)) (by (with_reducible repeat (first | refine blk_drewN ?_ _ | refine blk_drew ?_ | refine blk_alloc ?_ _)); exact BK156.out)) : gb157 ≠ gb156)); clear BK156; clear HB; have BK156 := n0_; have HB := n1_; have BK157 := n2_; have GW157 := n3_; have GE157 := n4_; have NB156_157 := n5_; have NB157_156 := n6_; clear n0_ n1_ n2_ n3_ n4_ n5_ n6_; clear hb hbox hg))
  go_ret2
  exact ⟨_, by first | rfl | (simp [errW_none, errW_some] <;> rfl) | (simp [*, errW_none, errW_some] <;> rfl), by first | exact Kd.R_nil _ _ _ _ _ | exact Kd.N_nil _ _ _ _ _ | exact Kd.V_nil _ _ _ _ _ | exact Kd.Q_nil _ _ _ _ _ | exact Kd.S_nil _ _ _ _ _, by repeat (first | (with_reducible first | exact HB.out | apply below_alloc | apply pw_below_drewN | apply below_drew1 | refine below_set ?_ GE156.out | refine below_set ?_ GE157.out) | exact HB.out)⟩
 ·rw [if_neg c4] at H
  have c4b0 : decide (600 < (l0.length : Int)) = false := decide_eq_false c4
  have c4b1 : decide (600 < l0.length) = false := decide_eq_false (by omega)
  clear c4
  have HC7 := Aside0.mk H
  clear H
  go_enter Star.func41, Try.ntmps41
  go_upto_region 4 with (first | ((with_reducible refine gate_dst (N := 4) rfl ?_); refine box_event ?hg (N := 4) ?hd (cs := #[.int .i64 a1]) (t := 2) ?hr ?_; (case hd => rfl); (case hg => rfl); (case hr => first | (go_simp; done) | (go_simp; rfl)); intro gb156 hg w8 hbox hb; have n0_ := Aside0.mk (below_step (by repeat (first | (with_reducible first | exact HB.out | apply below_alloc | apply pw_below_drewN | apply below_drew1) | exact HB.out)) hb); have n1_ := Aside0.mk (hbox); have n2_ := Aside0.mk ((by rw [hg]; exact (below_size (by repeat (first | (with_reducible first | exact HB.out | apply below_alloc | apply pw_below_drewN | apply below_drew1) | exact HB.out))) : w.heap.size ≤ gb156)); have n3_ := Aside0.mk ((by rw [hg]; exact (below_size (by repeat (first | (with_reducible first | exact HB.out | apply below_alloc | apply pw_below_drewN | apply below_drew1) | exact HB.out))) : w.heap.size ≤ gb156)); clear HB; have HB := n0_; have BK156 := n1_; have GW156 := n2_; have GE156 := n3_; clear n0_ n1_ n2_ n3_; clear hb hbox hg) | ((with_reducible refine gate_dst (N := 5) rfl ?_); refine box_event ?hg (N := 5) ?hd (cs := #[.int .i64 a2]) (t := 2) ?hr ?_; (case hd => rfl); (case hg => rfl); (case hr => first | (go_simp; done) | (go_simp; rfl)); intro gb157 hg w9 hbox hb; have n0_ := Aside0.mk (blk_below (g := gb156) (o := .cells #[.int .i64 a1] 2 (0, 0)) (by (with_reducible repeat (first | refine blk_drewN ?_ _ | refine blk_drew ?_ | refine blk_alloc ?_ _)); exact BK156.out) hb); have n1_ := Aside0.mk (below_step (by repeat (first | (with_reducible first | exact HB.out | apply below_alloc | apply pw_below_drewN | apply below_drew1 | refine below_set ?_ GE156.out) | exact HB.out)) hb); have n2_ := Aside0.mk (hbox); have n3_ := Aside0.mk ((by rw [hg]; exact (below_size (by repeat (first | (with_reducible first | exact HB.out | apply below_alloc | apply pw_below_drewN | apply below_drew1 | refine below_set ?_ GE156.out) | exact HB.out))) : w.heap.size ≤ gb157)); have n4_ := Aside0.mk ((by rw [hg]; exact (below_size (by repeat (first | (with_reducible first | exact HB.out | apply below_alloc | apply pw_below_drewN | apply below_drew1 | refine below_set ?_ GE156.out) | exact HB.out))) : w.heap.size ≤ gb157)); have n5_ := Aside0.mk ((by rw [hg]; exact Nat.ne_of_lt (blk_lt (g := gb156) (o := .cells #[.int .i64 a1] 2 (0, 0)) (by (with_reducible repeat (first | refine blk_drewN ?_ _ | refine blk_drew ?_ | refine blk_alloc ?_ _)); exact BK156.out)) : gb156 ≠ gb157)); have n6_ := Aside0.mk ((by rw [hg]; exact Nat.ne_of_gt (blk_lt (g := gb156) (o := .cells #[.int .i64 a1] 2 (0, 0)) (by (with_reducible repeat (first | refine blk_drewN ?_ _ | refine blk_drew ?_ | refine blk_alloc ?_ _)); exact BK156.out)) : gb157 ≠ gb156)); clear BK156; clear HB; have BK156 := n0_; have HB := n1_; have BK157 := n2_; have GW157 := n3_; have GE157 := n4_; have NB156_157 := n5_; have NB157_156 := n6_; clear n0_ n1_ n2_ n3_ n4_ n5_ n6_; clear hb hbox hg))
  have H := HC7.out
  clear HC7
  replace H := Option.bind_eq_some_iff.mp H
  obtain ⟨t158, A100, H⟩ := H
  replace H : (if t158 = true then (some (([] : List Int), 2)) else ((rate_May.f a1).bind fun t159 => (if t159 = true then ((value_fold_int64_int64__value_times_2.f k l0 0 a2 a1).bind fun bt160 => (some (bt160.1, bt160.2))) else (some (([] : List Int), 2))))) = some (r1, r2) := H
  have A10 := Aside0.mk A100
  clear A100
  by_cases c11 : t158 = true
  ·subst c11
   have H1 : (some (([] : List Int), 2)) = some (r1, r2) := by rw [if_pos rfl] at H; exact H
   clear H
   have H := H1
   clear H1
   simp only [Option.some.injEq, Prod.mk.injEq] at H
   obtain ⟨rfl, rfl⟩ := H
   go_wp2_with (first | ((with_reducible refine gate_callee (f := 60) rfl ?_); refine goesL_ (some 16) rfl rfl Star.func60 (by kernel_rfl) rfl #[.slice A0 l0.length c0, .func (.func 58) #[] #[]] rfl (by (try simp only [List.map_toArray, List.map_cons, List.map_nil]); first | done | rfl | (simp only [List.length_drop, List.length_take]; rfl)) ?_; (with_reducible refine (slices_ContainsFunc_int64_int64__value_times_1.calls k _ _ l0  true _ ?side1 ?side2 A10.out).mono ?_); (case side1 => repeat (first | exact (Kd.C_below HR0.out HB.out) | (with_reducible refine Kd.C_alloc ?_ _) | (with_reducible refine Kd.C_drewN ?_ _) | (with_reducible refine Kd.C_drew ?_))); (case side2 => exact HC0.out); rintro e w12 ⟨rfl, hb⟩; refine ⟨_, rfl, ?_⟩; have n0_ := Aside0.mk (blk_below (g := gb156) (o := .cells #[.int .i64 a1] 2 (0, 0)) (by (with_reducible repeat (first | refine blk_drewN ?_ _ | refine blk_drew ?_ | refine blk_alloc ?_ _)); exact BK156.out) hb); have n1_ := Aside0.mk (blk_below (g := gb157) (o := .cells #[.int .i64 a2] 2 (0, 0)) (by (with_reducible repeat (first | refine blk_drewN ?_ _ | refine blk_drew ?_ | refine blk_alloc ?_ _)); exact BK157.out) hb); have n2_ := Aside0.mk (below_step (by repeat (first | (with_reducible first | exact HB.out | apply below_alloc | apply pw_below_drewN | apply below_drew1 | refine below_set ?_ GE156.out | refine below_set ?_ GE157.out) | exact HB.out)) hb); clear BK156; clear BK157; clear HB; have BK156 := n0_; have BK157 := n1_; have HB := n2_; clear n0_ n1_ n2_; (try clear hb); (try clear hb2); (try clear hk); (try clear hi)))
   go_ret2
   exact ⟨_, by first | rfl | (simp [errW_none, errW_some] <;> rfl) | (simp [*, errW_none, errW_some] <;> rfl), by first | exact Kd.R_nil _ _ _ _ _ | exact Kd.N_nil _ _ _ _ _ | exact Kd.V_nil _ _ _ _ _ | exact Kd.Q_nil _ _ _ _ _ | exact Kd.S_nil _ _ _ _ _, by repeat (first | (with_reducible first | exact HB.out | apply below_alloc | apply pw_below_drewN | apply below_drew1 | refine below_set ?_ GE156.out | refine below_set ?_ GE157.out) | exact HB.out)⟩
  ·replace c11 := Bool.eq_false_iff.mpr c11
   subst c11
   have H1 : ((rate_May.f a1).bind fun t159 => (if t159 = true then ((value_fold_int64_int64__value_times_2.f k l0 0 a2 a1).bind fun bt160 => (some (bt160.1, bt160.2))) else (some (([] : List Int), 2)))) = some (r1, r2) := by rw [if_neg (show ¬ (false = true) by decide)] at H; exact H
   clear H
   have H := H1
   clear H1
   replace H := Option.bind_eq_some_iff.mp H
   obtain ⟨t159, A130, H⟩ := H
   replace H : (if t159 = true then ((value_fold_int64_int64__value_times_2.f k l0 0 a2 a1).bind fun bt160 => (some (bt160.1, bt160.2))) else (some (([] : List Int), 2))) = some (r1, r2) := H
   have A13 := Aside0.mk A130
   clear A130
   by_cases c14 : t159 = true
   ·subst c14
    have H1 : ((value_fold_int64_int64__value_times_2.f k l0 0 a2 a1).bind fun bt160 => (some (bt160.1, bt160.2))) = some (r1, r2) := by rw [if_pos rfl] at H; exact H
    clear H
    have H := H1
    clear H1
    replace H := Option.bind_eq_some_iff.mp H
    obtain ⟨⟨t160, t161⟩, A150, H⟩ := H
    replace H : (some (t160, t161)) = some (r1, r2) := H
    have A15 := Aside0.mk A150
    clear A150
    simp only [Option.some.injEq, Prod.mk.injEq] at H
    obtain ⟨rfl, rfl⟩ := H
    go_wp2_with (first | ((with_reducible refine gate_callee (f := 60) rfl ?_); refine goesL_ (some 16) rfl rfl Star.func60 (by kernel_rfl) rfl #[.slice A0 l0.length c0, .func (.func 58) #[] #[]] rfl (by (try simp only [List.map_toArray, List.map_cons, List.map_nil]); first | done | rfl | (simp only [List.length_drop, List.length_take]; rfl)) ?_; (with_reducible refine (slices_ContainsFunc_int64_int64__value_times_1.calls k _ _ l0  false _ ?side1 ?side2 A10.out).mono ?_); (case side1 => repeat (first | exact (Kd.C_below HR0.out HB.out) | (with_reducible refine Kd.C_alloc ?_ _) | (with_reducible refine Kd.C_drewN ?_ _) | (with_reducible refine Kd.C_drew ?_))); (case side2 => exact HC0.out); rintro e w16 ⟨rfl, hb⟩; refine ⟨_, rfl, ?_⟩; have n0_ := Aside0.mk (blk_below (g := gb156) (o := .cells #[.int .i64 a1] 2 (0, 0)) (by (with_reducible repeat (first | refine blk_drewN ?_ _ | refine blk_drew ?_ | refine blk_alloc ?_ _)); exact BK156.out) hb); have n1_ := Aside0.mk (blk_below (g := gb157) (o := .cells #[.int .i64 a2] 2 (0, 0)) (by (with_reducible repeat (first | refine blk_drewN ?_ _ | refine blk_drew ?_ | refine blk_alloc ?_ _)); exact BK157.out) hb); have n2_ := Aside0.mk (below_step (by repeat (first | (with_reducible first | exact HB.out | apply below_alloc | apply pw_below_drewN | apply below_drew1 | refine below_set ?_ GE156.out | refine below_set ?_ GE157.out) | exact HB.out)) hb); clear BK156; clear BK157; clear HB; have BK156 := n0_; have BK157 := n1_; have HB := n2_; clear n0_ n1_ n2_; (try clear hb); (try clear hb2); (try clear hk); (try clear hi); have hnb17 := NB156_157.out; have hnc17 := NB157_156.out; have hcz18_0 : w16.cell? ⟨gb156, 0, none⟩ = some (.int .i64 a1) := (blk_cell BK156.out 0).trans rfl; have hfz18_0 := blk_frozen BK156.out 0) | (go_at_call 26; (with_reducible refine (rate_May.calls a1 true _ A13.out).mono ?_); rintro e w' ⟨rfl, ⟨nd, rfl⟩⟩; have hcz19_0 : w16.cell? ⟨gb157, 0, none⟩ = some (.int .i64 a2) := (blk_cell BK157.out 0).trans rfl; have hfz19_0 := blk_frozen BK157.out 0) | ((with_reducible refine gate_callee (f := 61) rfl ?_); refine goesL_ (some 24) rfl rfl Star.func61 (by kernel_rfl) rfl #[.slice A0 l0.length c0, .int .i64 0, .func (.func 62) #[] #[.pointer (some ⟨gb157, 0, none⟩), .pointer (some ⟨gb156, 0, none⟩)]] rfl (by (try simp only [List.map_toArray, List.map_cons, List.map_nil]); first | done | rfl | (simp only [List.length_drop, List.length_take]; rfl)) ?_; (with_reducible refine (value_fold_int64_int64__value_times_2.calls k _ _ l0 0 gb157 a2 gb156 a1 t160 t161 _ ?side1 ?side2 ?side3 ?side4 A15.out).mono ?_); (case side1 => repeat (first | exact (Kd.C_below HR0.out (by repeat (first | (with_reducible first | exact HB.out | apply below_alloc | apply pw_below_drewN | apply below_drew1 | refine below_set ?_ GE156.out | refine below_set ?_ GE157.out) | exact HB.out))) | (with_reducible refine Kd.C_alloc ?_ _) | (with_reducible refine Kd.C_drewN ?_ _) | (with_reducible refine Kd.C_drew ?_))); (case side2 => exact HC0.out); (case side3 => (with_reducible repeat (first | refine blk_drewN ?_ _ | refine blk_drew ?_ | refine blk_alloc ?_ _)); exact BK157.out); (case side4 => (with_reducible repeat (first | refine blk_drewN ?_ _ | refine blk_drew ?_ | refine blk_alloc ?_ _)); exact BK156.out); rintro e w20 ⟨v162, rfl, ho0, hb⟩; refine ⟨_, rfl, ?_⟩; have n0_ := Aside0.mk (Kd.R_lower (Kd.R_newB (Kd.R_newB ho0 (g := gb156) (o := .cells #[.int .i64 a1] 2 (0, 0)) (by (with_reducible repeat (first | refine blk_drewN ?_ _ | refine blk_drew ?_ | refine blk_alloc ?_ _)); exact BK156.out)) (g := gb157) (o := .cells #[.int .i64 a2] 2 (0, 0)) (by (with_reducible repeat (first | refine blk_drewN ?_ _ | refine blk_drew ?_ | refine blk_alloc ?_ _)); exact BK157.out)) (below_size (by repeat (first | (with_reducible first | exact HB.out | apply below_alloc | apply pw_below_drewN | apply below_drew1 | refine below_set ?_ GE156.out | refine below_set ?_ GE157.out) | exact HB.out)))); have n1_ := Aside0.mk (blk_below (g := gb156) (o := .cells #[.int .i64 a1] 2 (0, 0)) (by (with_reducible repeat (first | refine blk_drewN ?_ _ | refine blk_drew ?_ | refine blk_alloc ?_ _)); exact BK156.out) hb); have n2_ := Aside0.mk (blk_below (g := gb157) (o := .cells #[.int .i64 a2] 2 (0, 0)) (by (with_reducible repeat (first | refine blk_drewN ?_ _ | refine blk_drew ?_ | refine blk_alloc ?_ _)); exact BK157.out) hb); have n3_ := Aside0.mk (below_step (by repeat (first | (with_reducible first | exact HB.out | apply below_alloc | apply pw_below_drewN | apply below_drew1 | refine below_set ?_ GE156.out | refine below_set ?_ GE157.out) | exact HB.out)) hb); clear BK156; clear BK157; clear HB; have HO163 := n0_; have BK156 := n1_; have BK157 := n2_; have HB := n3_; clear n0_ n1_ n2_ n3_; (try clear hb); (try clear hb2); (try clear hk); (try clear hi); (try clear ho0)))
    go_ret2
    exact ⟨_, by first | rfl | (simp [errW_none, errW_some] <;> rfl) | (simp [*, errW_none, errW_some] <;> rfl), by (with_reducible repeat (first | apply Kd.R_alloc | apply Kd.R_drewN | apply Kd.R_drew)); exact Kd.R_mono HO163.out (fun _ hk => trivial), by repeat (first | (with_reducible first | exact HB.out | apply below_alloc | apply pw_below_drewN | apply below_drew1 | refine below_set ?_ GE156.out | refine below_set ?_ GE157.out) | exact HB.out)⟩
   ·replace c14 := Bool.eq_false_iff.mpr c14
    subst c14
    have H1 : (some (([] : List Int), 2)) = some (r1, r2) := by rw [if_neg (show ¬ (false = true) by decide)] at H; exact H
    clear H
    have H := H1
    clear H1
    simp only [Option.some.injEq, Prod.mk.injEq] at H
    obtain ⟨rfl, rfl⟩ := H
    go_wp2_with (first | ((with_reducible refine gate_callee (f := 60) rfl ?_); refine goesL_ (some 16) rfl rfl Star.func60 (by kernel_rfl) rfl #[.slice A0 l0.length c0, .func (.func 58) #[] #[]] rfl (by (try simp only [List.map_toArray, List.map_cons, List.map_nil]); first | done | rfl | (simp only [List.length_drop, List.length_take]; rfl)) ?_; (with_reducible refine (slices_ContainsFunc_int64_int64__value_times_1.calls k _ _ l0  false _ ?side1 ?side2 A10.out).mono ?_); (case side1 => repeat (first | exact (Kd.C_below HR0.out HB.out) | (with_reducible refine Kd.C_alloc ?_ _) | (with_reducible refine Kd.C_drewN ?_ _) | (with_reducible refine Kd.C_drew ?_))); (case side2 => exact HC0.out); rintro e w21 ⟨rfl, hb⟩; refine ⟨_, rfl, ?_⟩; have n0_ := Aside0.mk (blk_below (g := gb156) (o := .cells #[.int .i64 a1] 2 (0, 0)) (by (with_reducible repeat (first | refine blk_drewN ?_ _ | refine blk_drew ?_ | refine blk_alloc ?_ _)); exact BK156.out) hb); have n1_ := Aside0.mk (blk_below (g := gb157) (o := .cells #[.int .i64 a2] 2 (0, 0)) (by (with_reducible repeat (first | refine blk_drewN ?_ _ | refine blk_drew ?_ | refine blk_alloc ?_ _)); exact BK157.out) hb); have n2_ := Aside0.mk (below_step (by repeat (first | (with_reducible first | exact HB.out | apply below_alloc | apply pw_below_drewN | apply below_drew1 | refine below_set ?_ GE156.out | refine below_set ?_ GE157.out) | exact HB.out)) hb); clear BK156; clear BK157; clear HB; have BK156 := n0_; have BK157 := n1_; have HB := n2_; clear n0_ n1_ n2_; (try clear hb); (try clear hb2); (try clear hk); (try clear hi); have hnb22 := NB156_157.out; have hnc22 := NB157_156.out; have hcz23_0 : w21.cell? ⟨gb156, 0, none⟩ = some (.int .i64 a1) := (blk_cell BK156.out 0).trans rfl; have hfz23_0 := blk_frozen BK156.out 0) | (go_at_call 26; (with_reducible refine (rate_May.calls a1 false _ A13.out).mono ?_); rintro e w' ⟨rfl, ⟨nd, rfl⟩⟩))
    go_ret2
    exact ⟨_, by first | rfl | (simp [errW_none, errW_some] <;> rfl) | (simp [*, errW_none, errW_some] <;> rfl), by first | exact Kd.R_nil _ _ _ _ _ | exact Kd.N_nil _ _ _ _ _ | exact Kd.V_nil _ _ _ _ _ | exact Kd.Q_nil _ _ _ _ _ | exact Kd.S_nil _ _ _ _ _, by repeat (first | (with_reducible first | exact HB.out | apply below_alloc | apply pw_below_drewN | apply below_drew1 | refine below_set ?_ GE156.out | refine below_set ?_ GE157.out) | exact HB.out)⟩
end Go.Proofs.Ytjgleaakgbnjgaa.S
end

section
namespace Go.Proofs.Ytjgleaakgbnjgaa.S
open Go.RowKit Go.Proofs.YtjgleaakgbnjgaaW.PrintWords Go.Proofs.YtjgleaakgbnjgaaW.PrintLast Go.Proofs.YtjgleaakgbnjgaaW.PrintMore
attribute [local go_sem] max2_int min2_int max_two min_two max_three min_three max_four min_four
attribute [local go_sem] XWalk.cell2
def value_now.f (k : Nat) (l0 : List Int) (a1 : Int) (a2 : Int) : Option (Int × Int) := (value_times.f k l0 a1 a2).bind fun bt164 => (if bt164.2 = 0 then (if 0 < (bt164.1.length : Int) then (some (rd bt164.1 0, 0)) else (none)) else (some (0, bt164.2)))
set_option maxHeartbeats 8000000 in
set_option maxRecDepth 100000 in
theorem value_now.calls (k : Nat) (A0 : Option Addr) (c0 : Nat) (l0 : List Int) (a1 : Int) (a2 : Int) (r1 : Int) (r2 : Int) (w : World) (hr0 : Kd.C (Kd.int .i64) w A0 l0.length l0) (hc0 : l0.length ≤ c0) (h : value_now.f k l0 a1 a2 = some (r1, r2)) :
  Calls Star.prog 27 #[.slice A0 l0.length c0, .int .i64 a1, .int .i64 a2] w fun e w' => e = .returned (.tuple #[.int .i64 r1, .int .i64 r2]) ∧ Below w.heap.size w w' := by
 have HR0 := Aside0.mk hr0
 have HC0 := Aside0.mk hc0
 clear hr0 hc0
 have HB := Aside0.mk (Below.refl w.heap.size w)
 have H : ((value_times.f k l0 a1 a2).bind fun bt164 => (if bt164.2 = 0 then (if 0 < (bt164.1.length : Int) then (some (rd bt164.1 0, 0)) else (none)) else (some (0, bt164.2)))) = some (r1, r2) := h
 clear h
 replace H := Option.bind_eq_some_iff.mp H
 obtain ⟨⟨t164, t165⟩, A40, H⟩ := H
 replace H : (if t165 = 0 then (if 0 < (t164.length : Int) then (some (rd t164 0, 0)) else (none)) else (some (0, t165))) = some (r1, r2) := H
 have A4 := Aside0.mk A40
 clear A40
 by_cases c5 : t165 = 0
 ·rw [if_pos c5] at H
  have c5b0 : (t165 == 0) = true := beq_iff_eq.mpr c5
  have c5b1 : (t165 != 0) = false := bne_eq_false_iff_eq.mpr c5
  clear c5
  by_cases c6 : 0 < (t164.length : Int)
  ·rw [if_pos c6] at H
   have c6b0 : decide (0 < (t164.length : Int)) = true := decide_eq_true c6
   have c6b1 : decide (0 < t164.length) = true := decide_eq_true (by omega)
   clear c6
   simp only [Option.some.injEq, Prod.mk.injEq] at H
   obtain ⟨rfl, rfl⟩ := H
   go_enter Star.func27, Try.ntmps27
   go_wp2_with (first | ((with_reducible refine gate_callee (f := 41) rfl ?_); refine goesL_ (some 14) rfl rfl Star.func41 (by kernel_rfl) rfl #[.slice A0 l0.length c0, .int .i64 a1, .int .i64 a2] rfl (by (try simp only [List.map_toArray, List.map_cons, List.map_nil]); first | done | rfl | (simp only [List.length_drop, List.length_take]; rfl)) ?_; (with_reducible refine (value_times.calls k _ _ l0 a1 a2 t164 t165 _ ?side1 ?side2 A4.out).mono ?_); (case side1 => repeat (first | exact HR0.out | (with_reducible refine Kd.C_alloc ?_ _) | (with_reducible refine Kd.C_drewN ?_ _) | (with_reducible refine Kd.C_drew ?_))); (case side2 => exact HC0.out); rintro e w7 ⟨v166, rfl, ho0, hb⟩; refine ⟨_, rfl, ?_⟩; have n0_ := Aside0.mk (Kd.R_lower ho0 (below_size (by repeat (first | (with_reducible first | exact HB.out | apply below_alloc | apply pw_below_drewN | apply below_drew1) | exact HB.out)))); have n1_ := Aside0.mk (below_step (by repeat (first | (with_reducible first | exact HB.out | apply below_alloc | apply pw_below_drewN | apply below_drew1) | exact HB.out)) hb); clear HB; have HO167 := n0_; have HB := n1_; clear n0_ n1_; (try clear hb); (try clear hb2); (try clear hk); (try clear hi); (try clear ho0); obtain ⟨Ao8, co8, eo8⟩ := Kd.R_slice HO167.out; subst eo8; have p168 : 0 ≤ (0 : Int) := (by omega); have q168 : 0 < (t164.length : Int) := of_decide_eq_true (by first | (with_reducible assumption) | assumption); obtain ⟨ad168, e168, hx168_0⟩ := Kd.at_int (Kd.R_reads' HO167.out).2.2 0 p168 q168; cases e168; have qi168 : (0 < t164.length) = True := eq_true (by omega); (try rw [show ((0 : Int)).toNat = 0 from rfl] at hx168_0); (try rw [Addr.add_zero'] at hx168_0); replace p168 := eq_true p168; replace q168 := eq_true q168))
   go_ret2
   exact ⟨by first | rfl | (simp [errW_none, errW_some] <;> rfl) | (simp [*, errW_none, errW_some] <;> rfl), by repeat (first | (with_reducible first | exact HB.out | apply below_alloc | apply pw_below_drewN | apply below_drew1) | exact HB.out)⟩
  ·rw [if_neg c6] at H
   exact absurd H (by simp)
 ·rw [if_neg c5] at H
  have c5b0 : (t165 == 0) = false := beq_eq_false_iff_ne.mpr c5
  have c5b1 : (t165 != 0) = true := bne_iff_ne.mpr c5
  simp only [Option.some.injEq, Prod.mk.injEq] at H
  obtain ⟨rfl, rfl⟩ := H
  go_enter Star.func27, Try.ntmps27
  go_wp2_with (first | ((with_reducible refine gate_callee (f := 41) rfl ?_); refine goesL_ (some 14) rfl rfl Star.func41 (by kernel_rfl) rfl #[.slice A0 l0.length c0, .int .i64 a1, .int .i64 a2] rfl (by (try simp only [List.map_toArray, List.map_cons, List.map_nil]); first | done | rfl | (simp only [List.length_drop, List.length_take]; rfl)) ?_; (with_reducible refine (value_times.calls k _ _ l0 a1 a2 t164 t165 _ ?side1 ?side2 A4.out).mono ?_); (case side1 => repeat (first | exact HR0.out | (with_reducible refine Kd.C_alloc ?_ _) | (with_reducible refine Kd.C_drewN ?_ _) | (with_reducible refine Kd.C_drew ?_))); (case side2 => exact HC0.out); rintro e w9 ⟨v166, rfl, ho0, hb⟩; refine ⟨_, rfl, ?_⟩; have n0_ := Aside0.mk (Kd.R_lower ho0 (below_size (by repeat (first | (with_reducible first | exact HB.out | apply below_alloc | apply pw_below_drewN | apply below_drew1) | exact HB.out)))); have n1_ := Aside0.mk (below_step (by repeat (first | (with_reducible first | exact HB.out | apply below_alloc | apply pw_below_drewN | apply below_drew1) | exact HB.out)) hb); clear HB; have HO167 := n0_; have HB := n1_; clear n0_ n1_; (try clear hb); (try clear hb2); (try clear hk); (try clear hi); (try clear ho0)))
  go_ret2
  exact ⟨by first | rfl | (simp [errW_none, errW_some] <;> rfl) | (simp [*, errW_none, errW_some] <;> rfl), by repeat (first | (with_reducible first | exact HB.out | apply below_alloc | apply pw_below_drewN | apply below_drew1) | exact HB.out)⟩
end Go.Proofs.Ytjgleaakgbnjgaa.S
end

section
namespace Go.Proofs.Ytjgleaakgbnjgaa.S
open Go.RowKit Go.Proofs.YtjgleaakgbnjgaaW.PrintWords Go.Proofs.YtjgleaakgbnjgaaW.PrintLast Go.Proofs.YtjgleaakgbnjgaaW.PrintMore
attribute [local go_sem] max2_int min2_int max_two min_two max_three min_three max_four min_four
attribute [local go_sem] XWalk.cell2
def value_Fine.f (k : Nat) (l0 : List Int) (a1 : Int) : Option (Int × Int) := (value_now.f k l0 a1 1000).bind fun bt169 => (some (bt169.1, bt169.2))
set_option maxHeartbeats 8000000 in
set_option maxRecDepth 100000 in
theorem value_Fine.calls (k : Nat) (A0 : Option Addr) (c0 : Nat) (l0 : List Int) (a1 : Int) (r1 : Int) (r2 : Int) (w : World) (hr0 : Kd.C (Kd.int .i64) w A0 l0.length l0) (hc0 : l0.length ≤ c0) (h : value_Fine.f k l0 a1 = some (r1, r2)) :
  Calls Star.prog 12 #[.slice A0 l0.length c0, .int .i64 a1] w fun e w' => e = .returned (.tuple #[.int .i64 r1, .int .i64 r2]) ∧ Below w.heap.size w w' := by
 have HR0 := Aside0.mk hr0
 have HC0 := Aside0.mk hc0
 clear hr0 hc0
 have HB := Aside0.mk (Below.refl w.heap.size w)
 have H : ((value_now.f k l0 a1 1000).bind fun bt169 => (some (bt169.1, bt169.2))) = some (r1, r2) := h
 clear h
 replace H := Option.bind_eq_some_iff.mp H
 obtain ⟨⟨t169, t170⟩, A30, H⟩ := H
 replace H : (some (t169, t170)) = some (r1, r2) := H
 have A3 := Aside0.mk A30
 clear A30
 simp only [Option.some.injEq, Prod.mk.injEq] at H
 obtain ⟨rfl, rfl⟩ := H
 go_enter Star.func12, Try.ntmps12
 go_wp2_with (first | ((with_reducible refine gate_callee (f := 27) rfl ?_); refine goesL_ (some 8) rfl rfl Star.func27 (by kernel_rfl) rfl #[.slice A0 l0.length c0, .int .i64 a1, .int .i64 1000] rfl (by (try simp only [List.map_toArray, List.map_cons, List.map_nil]); first | done | rfl | (simp only [List.length_drop, List.length_take]; rfl)) ?_; (with_reducible refine (value_now.calls k _ _ l0 a1 1000 t169 t170 _ ?side1 ?side2 A3.out).mono ?_); (case side1 => repeat (first | exact HR0.out | (with_reducible refine Kd.C_alloc ?_ _) | (with_reducible refine Kd.C_drewN ?_ _) | (with_reducible refine Kd.C_drew ?_))); (case side2 => exact HC0.out); rintro e w4 ⟨rfl, hb⟩; refine ⟨_, rfl, ?_⟩; have n0_ := Aside0.mk (below_step (by repeat (first | (with_reducible first | exact HB.out | apply below_alloc | apply pw_below_drewN | apply below_drew1) | exact HB.out)) hb); clear HB; have HB := n0_; clear n0_; (try clear hb); (try clear hb2); (try clear hk); (try clear hi)))
 go_ret2
 exact ⟨by first | rfl | (simp [errW_none, errW_some] <;> rfl) | (simp [*, errW_none, errW_some] <;> rfl), by repeat (first | (with_reducible first | exact HB.out | apply below_alloc | apply pw_below_drewN | apply below_drew1) | exact HB.out)⟩
end Go.Proofs.Ytjgleaakgbnjgaa.S
end

section
namespace Go.Proofs.Ytjgleaakgbnjgaa.S
open Go.RowKit Go.Proofs.YtjgleaakgbnjgaaW.PrintWords Go.Proofs.YtjgleaakgbnjgaaW.PrintLast Go.Proofs.YtjgleaakgbnjgaaW.PrintMore
attribute [local go_sem] max2_int min2_int max_two min_two max_three min_three max_four min_four
attribute [local go_sem] XWalk.cell2
def eir_covers.f (k : Nat) (a0 : Int) (l1 : List Int) (a2 : Int) : Option (Bool) := (value_Fine.f k l1 a2).bind fun bt171 => (if bt171.2 = 3 then (some true) else (if bt171.2 = 0 then (some (decide (bt171.1 ≥ (wrap64 (a0 * 1000))))) else (some false)))
set_option maxHeartbeats 8000000 in
set_option maxRecDepth 100000 in
theorem eir_covers.calls (k : Nat) (a0 : Int) (A1 : Option Addr) (c1 : Nat) (l1 : List Int) (a2 : Int) (r : Bool) (w : World) (hr1 : Kd.C (Kd.int .i64) w A1 l1.length l1) (hc1 : l1.length ≤ c1) (h : eir_covers.f k a0 l1 a2 = some r) :
  Calls Star.prog 24 #[.int .i64 a0, .slice A1 l1.length c1, .int .i64 a2] w fun e w' => e = .returned (.bool r) ∧ Below w.heap.size w w' := by
 have HR1 := Aside0.mk hr1
 have HC1 := Aside0.mk hc1
 clear hr1 hc1
 have HB := Aside0.mk (Below.refl w.heap.size w)
 have H : ((value_Fine.f k l1 a2).bind fun bt171 => (if bt171.2 = 3 then (some true) else (if bt171.2 = 0 then (some (decide (bt171.1 ≥ (wrap64 (a0 * 1000))))) else (some false)))) = some r := h
 clear h
 replace H := Option.bind_eq_some_iff.mp H
 obtain ⟨⟨t171, t172⟩, A40, H⟩ := H
 replace H : (if t172 = 3 then (some true) else (if t172 = 0 then (some (decide (t171 ≥ (wrap64 (a0 * 1000))))) else (some false))) = some r := H
 have A4 := Aside0.mk A40
 clear A40
 have HC5 := Aside0.mk H
 clear H
 go_enter Star.func24, Try.ntmps24
 go_upto_region 2 with (first | ((with_reducible refine gate_callee (f := 12) rfl ?_); refine goesL_ (some 12) rfl rfl Star.func12 (by kernel_rfl) rfl #[.slice A1 l1.length c1, .int .i64 a2] rfl (by (try simp only [List.map_toArray, List.map_cons, List.map_nil]); first | done | rfl | (simp only [List.length_drop, List.length_take]; rfl)) ?_; (with_reducible refine (value_Fine.calls k _ _ l1 a2 t171 t172 _ ?side1 ?side2 A4.out).mono ?_); (case side1 => repeat (first | exact HR1.out | (with_reducible refine Kd.C_alloc ?_ _) | (with_reducible refine Kd.C_drewN ?_ _) | (with_reducible refine Kd.C_drew ?_))); (case side2 => exact HC1.out); rintro e w6 ⟨rfl, hb⟩; refine ⟨_, rfl, ?_⟩; have n0_ := Aside0.mk (below_step (by repeat (first | (with_reducible first | exact HB.out | apply below_alloc | apply pw_below_drewN | apply below_drew1) | exact HB.out)) hb); clear HB; have HB := n0_; clear n0_; (try clear hb); (try clear hb2); (try clear hk); (try clear hi)))
 have H := HC5.out
 clear HC5
 by_cases c7 : t172 = 3
 ·rw [if_pos c7] at H
  have c7b0 : (t172 == 3) = true := beq_iff_eq.mpr c7
  have c7b1 : (t172 != 3) = false := bne_eq_false_iff_eq.mpr c7
  clear c7
  obtain rfl := Option.some.inj H
  go_wp2
  go_ret
  exact ⟨by first | rfl | (simp [errW_none, errW_some] <;> rfl) | (simp [*, errW_none, errW_some] <;> rfl), by repeat (first | (with_reducible first | exact HB.out | apply below_alloc | apply pw_below_drewN | apply below_drew1) | exact HB.out)⟩
 ·rw [if_neg c7] at H
  have c7b0 : (t172 == 3) = false := beq_eq_false_iff_ne.mpr c7
  have c7b1 : (t172 != 3) = true := bne_iff_ne.mpr c7
  by_cases c8 : t172 = 0
  ·rw [if_pos c8] at H
   have c8b0 : (t172 == 0) = true := beq_iff_eq.mpr c8
   have c8b1 : (t172 != 0) = false := bne_eq_false_iff_eq.mpr c8
   clear c8
   obtain rfl := Option.some.inj H
   go_wp2
   go_ret
   exact ⟨by first | rfl | (simp [errW_none, errW_some] <;> rfl) | (simp [*, errW_none, errW_some] <;> rfl), by repeat (first | (with_reducible first | exact HB.out | apply below_alloc | apply pw_below_drewN | apply below_drew1) | exact HB.out)⟩
  ·rw [if_neg c8] at H
   have c8b0 : (t172 == 0) = false := beq_eq_false_iff_ne.mpr c8
   have c8b1 : (t172 != 0) = true := bne_iff_ne.mpr c8
   obtain rfl := Option.some.inj H
   go_wp2
   go_ret
   exact ⟨by first | rfl | (simp [errW_none, errW_some] <;> rfl) | (simp [*, errW_none, errW_some] <;> rfl), by repeat (first | (with_reducible first | exact HB.out | apply below_alloc | apply pw_below_drewN | apply below_drew1) | exact HB.out)⟩
end Go.Proofs.Ytjgleaakgbnjgaa.S
end

section
namespace Go.Proofs.Ytjgleaakgbnjgaa.S
open Go.RowKit Go.Proofs.YtjgleaakgbnjgaaW.PrintWords Go.Proofs.YtjgleaakgbnjgaaW.PrintLast Go.Proofs.YtjgleaakgbnjgaaW.PrintMore
attribute [local go_sem] max2_int min2_int max_two min_two max_three min_three max_four min_four
attribute [local go_sem] XWalk.cell2
def eir_third_int64.f (a0 : Int) (a1 : Int) (a2 : Int) : Option (Int) := some (wrap64 (a0 + (wrap64 ((wrap64 (Int.tdiv (wrap64 (a1 - a0)) 3)) * a2))))
set_option maxHeartbeats 8000000 in
set_option maxRecDepth 100000 in
theorem eir_third_int64.calls (a0 : Int) (a1 : Int) (a2 : Int) (r : Int) (w : World) (h : eir_third_int64.f a0 a1 a2 = some r) :
  Calls Star.prog 52 #[.int .i64 a0, .int .i64 a1, .int .i64 a2] w fun e w' => e = .returned (.int .i64 r) ∧ Drawn0 w w' := by
 have H : (some (wrap64 (a0 + (wrap64 ((wrap64 (Int.tdiv (wrap64 (a1 - a0)) 3)) * a2))))) = some r := h
 clear h
 obtain rfl := Option.some.inj H
 go_enter Star.func52, Try.ntmps52
 go_wp2
 go_ret
 exact ⟨by first | rfl | (simp; done) | (simp [*]; done), by repeat (first | exact Drawn0.refl _ | apply Drawn0.step)⟩
end Go.Proofs.Ytjgleaakgbnjgaa.S
end

section
@[simp] theorem Go.Proofs.Star.ntmps10 : Go.Proofs.Star.f10.ntmps = 36 := rfl
namespace Go.Proofs.Ytjgleaakgbnjgaa.S
open Go.RowKit Go.Proofs.YtjgleaakgbnjgaaW.PrintWords Go.Proofs.YtjgleaakgbnjgaaW.PrintLast Go.Proofs.YtjgleaakgbnjgaaW.PrintMore
attribute [local go_sem] max2_int min2_int max_two min_two max_three min_three max_four min_four
attribute [local go_sem] XWalk.cell2
mutual
def eir_Solve.l0 : Nat → Int → List Int → Int → Int → Option (Int × Int)
 | 0, _, _, _, _ => none
 | k + 1, x0, x1, x3, x5 => if x5 < x3 then (if 0 ≤ x5 then (if x5 < (x1.length : Int) then (eir_Solve.l0 k x0 x1 x3 (wrap64 (x5 + 1))) else (none)) else (none)) else ((eir_may.f k x0 x1).bind fun t175 => (if t175 = true then ((eir_covers.f k x0 x1 (-990000000000)).bind fun t176 => (if t176 = true then ((eir_covers.f k x0 x1 10000000000000).bind fun t177 => (if t177 = true then (some (0, 13)) else (eir_Solve.l1 k x0 x1 (-990000000000) 10000000000000))) else (some (0, 13)))) else (some (0, 2))))
def eir_Solve.l1 : Nat → Int → List Int → Int → Int → Option (Int × Int)
 | 0, _, _, _, _ => none
 | k + 1, x0, x1, x19, x20 => if (wrap64 (x20 - x19)) > 3 then ((eir_third_int64.f x19 x20 1).bind fun t178 => ((eir_third_int64.f x19 x20 2).bind fun t179 => ((eir_covers.f k x0 x1 t178).bind fun t180 => ((eir_covers.f k x0 x1 t179).bind fun t181 => (if t180 = true then (if t181 = true then (eir_Solve.l1 k x0 x1 (mx (mx x19 t178) t179) x20) else (eir_Solve.l1 k x0 x1 (mx x19 t178) (mn x20 t179))) else (if t181 = true then (eir_Solve.l1 k x0 x1 (mx x19 t179) (mn x20 t178)) else (eir_Solve.l1 k x0 x1 x19 (mn (mn x20 t178) t179)))))))) else (eir_Solve.l2 k x0 x1 x19 x20)
def eir_Solve.l2 : Nat → Int → List Int → Int → Int → Option (Int × Int)
 | 0, _, _, _, _ => none
 | k + 1, x0, x1, x19, x20 => if (wrap64 (x20 - x19)) > 1 then ((eir_covers.f k x0 x1 (wrap64 (x19 + 1))).bind fun t182 => (if t182 = true then (eir_Solve.l2 k x0 x1 (wrap64 (x19 + 1)) x20) else (some (x19, 0)))) else (some (x19, 0))
end
def eir_Solve.f (k : Nat) (a0 : Int) (l1 : List Int) : Option (Int × Int) := if 0 ≤ (l1.length : Int) then (if (l1.length : Int) ≤ (l1.length : Int) then (eir_Solve.l0 k a0 l1 (l1.length : Int) 0) else (none)) else (none)
set_option maxHeartbeats 8000000 in
set_option maxRecDepth 100000 in
theorem eir_Solve.calls (k : Nat) (a0 : Int) (A1 : Option Addr) (c1 : Nat) (l1 : List Int) (r1 : Int) (r2 : Int) (w : World) (hr1 : Kd.C (Kd.int .i64) w A1 l1.length l1) (hc1 : l1.length ≤ c1) (h : eir_Solve.f k a0 l1 = some (r1, r2)) :
  Calls Star.prog 10 #[.int .i64 a0, .slice A1 l1.length c1] w fun e w' => e = .returned (.tuple #[.int .i64 r1, .int .i64 r2]) ∧ Below w.heap.size w w' := by
 have HR1 := Aside0.mk hr1
 have HC1 := Aside0.mk hc1
 clear hr1 hc1
 have HB := Aside0.mk (Below.refl w.heap.size w)
 have H : (if 0 ≤ (l1.length : Int) then (if (l1.length : Int) ≤ (l1.length : Int) then (eir_Solve.l0 k a0 l1 (l1.length : Int) 0) else (none)) else (none)) = some (r1, r2) := h
 clear h
 by_cases c3 : 0 ≤ (l1.length : Int)
 ·rw [if_pos c3] at H
  have c3b0 := eq_true c3
  have c3b1 : decide (0 ≤ (l1.length : Int)) = true := decide_eq_true c3
  clear c3
  by_cases c4 : (l1.length : Int) ≤ (l1.length : Int)
  ·rw [if_pos c4] at H
   have c4b0 := eq_true c4
   have c4b1 : decide ((l1.length : Int) ≤ (l1.length : Int)) = true := decide_eq_true c4
   clear c4
   have H' := Aside0.mk H
   clear H
   obtain ⟨i05, hi05, _, hsz5, _⟩ := info_parts info2
   obtain ⟨hcut5, hA5, hC5⟩ := print_take_of (P := Star.prog) (Value.int .i64) 0 22 2 .i64 Star.underlying22 hi05 hsz5 A1 c1 l1 (l1.length : Int) (of_decide_eq_true (by first | (with_reducible assumption) | assumption)) (of_decide_eq_true (by first | (with_reducible assumption) | assumption)) HC1.out
   have HR173 := Aside0.mk (Kd.C_of_reads (h1 := fun _ => rfl) (hA5 _ (Kd.reads_of_C HR1.out)))
   have HC173 := Aside0.mk hC5
   clear hA5 hC5 hi05 hsz5
   go_enter Star.func10, Star.ntmps10
   delta Go.Proofs.Star.body10
   go_wp2
   go_loopg [5] k (fun kq v5 w' => ∃ (x5_1 : Int), v5 = .int .i64 x5_1 ∧ Aside0 (eir_Solve.l0 kq a0 l1 (l1.length : Int) x5_1 = some (r1, r2)) ∧ Aside0 (kq ≤ k) ∧ Aside0 (Below w.heap.size w w'))
   case atStart => exact ⟨(0), (by first | rfl | (simp; done) | (simp [*]; done)), H', ⟨Nat.le_refl _⟩, ⟨by repeat (first | (with_reducible first | exact HB.out | apply below_alloc | apply pw_below_drewN | apply below_drew1) | exact HB.out)⟩⟩
   case round =>
    clear H'
    try clear c1; try clear p2; try clear c3; try clear c3b0; try clear c3b1; try clear c4; try clear c4b0; try clear c4b1
    obtain ⟨x5_1, rfl, HA, HK1, HB⟩ := hrel
    cases gk with
    | zero => exact absurd HA.out (by simp [eir_Solve.l0])
    | succ k1 =>
     have H := HA.out
     clear HA
     simp only [eir_Solve.l0] at H
     by_cases c6 : x5_1 < (l1.length : Int)
     ·rw [if_pos c6] at H
      have c6b0 : decide (x5_1 < (l1.length : Int)) = true := decide_eq_true c6
      clear c6
      by_cases c7 : 0 ≤ x5_1
      ·rw [if_pos c7] at H
       have c7b0 : decide (0 ≤ x5_1) = true := decide_eq_true c7
       clear c7
       by_cases c8 : x5_1 < (l1.length : Int)
       ·rw [if_pos c8] at H
        have c8b0 : decide (x5_1 < (l1.length : Int)) = true := decide_eq_true c8
        clear c8
        have H' := Aside0.mk H
        clear H
        have p174 : 0 ≤ (x5_1 : Int) := of_decide_eq_true (by first | (with_reducible assumption) | assumption)
        have q174 : x5_1 < (l1.length : Int) := of_decide_eq_true (by first | (with_reducible assumption) | assumption)
        obtain ⟨ad174, e174, hx174_0⟩ := Kd.at_int HR1.out x5_1 p174 q174
        cases e174
        try replace hx174_0 := (HB.out.cell (World.block_lt_of_cell? w _ hx174_0)).trans hx174_0
        replace p174 := eq_true p174
        replace q174 := eq_true q174
        go_wp2
        go_roundg k1
        case measure => have := HK1.out; omega
        case rel => exact ⟨(wrap64 (x5_1 + 1)), (by first | rfl | (simp; done) | (simp [*]; done)), H', ⟨by have := HK1.out; omega⟩, ⟨by repeat (first | (with_reducible first | exact HB.out | apply below_alloc | apply pw_below_drewN | apply below_drew1) | exact HB.out)⟩⟩
       ·rw [if_neg c8] at H
        exact absurd H (by simp)
      ·rw [if_neg c7] at H
       exact absurd H (by simp)
     ·rw [if_neg c6] at H
      have c6b0 : decide (x5_1 < (l1.length : Int)) = false := decide_eq_false c6
      clear c6
      replace H := Option.bind_eq_some_iff.mp H
      obtain ⟨t175, A90, H⟩ := H
      replace H : (if t175 = true then ((eir_covers.f k1 a0 l1 (-990000000000)).bind fun t176 => (if t176 = true then ((eir_covers.f k1 a0 l1 10000000000000).bind fun t177 => (if t177 = true then (some (0, 13)) else (eir_Solve.l1 k1 a0 l1 (-990000000000) 10000000000000))) else (some (0, 13)))) else (some (0, 2))) = some (r1, r2) := H
      have A9 := Aside0.mk A90
      clear A90
      by_cases c10 : t175 = true
      ·subst c10
       have H1 : ((eir_covers.f k1 a0 l1 (-990000000000)).bind fun t176 => (if t176 = true then ((eir_covers.f k1 a0 l1 10000000000000).bind fun t177 => (if t177 = true then (some (0, 13)) else (eir_Solve.l1 k1 a0 l1 (-990000000000) 10000000000000))) else (some (0, 13)))) = some (r1, r2) := by rw [if_pos rfl] at H; exact H
       clear H
       have H := H1
       clear H1
       replace H := Option.bind_eq_some_iff.mp H
       obtain ⟨t176, A110, H⟩ := H
       replace H : (if t176 = true then ((eir_covers.f k1 a0 l1 10000000000000).bind fun t177 => (if t177 = true then (some (0, 13)) else (eir_Solve.l1 k1 a0 l1 (-990000000000) 10000000000000))) else (some (0, 13))) = some (r1, r2) := H
       have A11 := Aside0.mk A110
       clear A110
       by_cases c12 : t176 = true
       ·subst c12
        have H1 : ((eir_covers.f k1 a0 l1 10000000000000).bind fun t177 => (if t177 = true then (some (0, 13)) else (eir_Solve.l1 k1 a0 l1 (-990000000000) 10000000000000))) = some (r1, r2) := by rw [if_pos rfl] at H; exact H
        clear H
        have H := H1
        clear H1
        replace H := Option.bind_eq_some_iff.mp H
        obtain ⟨t177, A130, H⟩ := H
        replace H : (if t177 = true then (some (0, 13)) else (eir_Solve.l1 k1 a0 l1 (-990000000000) 10000000000000)) = some (r1, r2) := H
        have A13 := Aside0.mk A130
        clear A130
        by_cases c14 : t177 = true
        ·subst c14
         have H1 : (some (0, 13)) = some (r1, r2) := by rw [if_pos rfl] at H; exact H
         clear H
         have H := H1
         clear H1
         simp only [Option.some.injEq, Prod.mk.injEq] at H
         obtain ⟨rfl, rfl⟩ := H
         go_wp2_with (first | ((with_reducible refine gate_callee (f := 22) rfl ?_); refine goesL_ (some 11) rfl rfl Star.func22 (by kernel_rfl) rfl #[.int .i64 a0, .slice A1 l1.length c1] rfl (by (try simp only [List.map_toArray, List.map_cons, List.map_nil]); first | done | rfl | (simp only [List.length_drop, List.length_take]; rfl)) ?_; (with_reducible refine (eir_may.calls k1 a0 _ _ l1 true _ ?side1 ?side2 A9.out).mono ?_); (case side1 => repeat (first | exact (Kd.C_below HR1.out HB.out) | (with_reducible refine Kd.C_alloc ?_ _) | (with_reducible refine Kd.C_drewN ?_ _) | (with_reducible refine Kd.C_drew ?_))); (case side2 => exact HC1.out); rintro e w' ⟨rfl, ⟨nd, rfl⟩⟩; refine ⟨_, rfl, ?_⟩) | ((with_reducible refine gate_callee (f := 24) rfl ?_); refine goesL_ (some 15) rfl rfl Star.func24 (by kernel_rfl) rfl #[.int .i64 a0, .slice A1 l1.length c1, .int .i64 (-990000000000)] rfl (by (try simp only [List.map_toArray, List.map_cons, List.map_nil]); first | done | rfl | (simp only [List.length_drop, List.length_take]; rfl)) ?_; (with_reducible refine (eir_covers.calls k1 a0 _ _ l1 (-990000000000) true _ ?side1 ?side2 A11.out).mono ?_); (case side1 => repeat (first | exact (Kd.C_below HR1.out (by repeat (first | (with_reducible first | exact HB.out | apply below_alloc | apply pw_below_drewN | apply below_drew1) | exact HB.out))) | (with_reducible refine Kd.C_alloc ?_ _) | (with_reducible refine Kd.C_drewN ?_ _) | (with_reducible refine Kd.C_drew ?_))); (case side2 => exact HC1.out); rintro e w15 ⟨rfl, hb⟩; refine ⟨_, rfl, ?_⟩; have n0_ := Aside0.mk (below_step (by repeat (first | (with_reducible first | exact HB.out | apply below_alloc | apply pw_below_drewN | apply below_drew1) | exact HB.out)) hb); clear HB; have HB := n0_; clear n0_; (try clear hb); (try clear hb2); (try clear hk); (try clear hi)) | ((with_reducible refine gate_callee (f := 24) rfl ?_); refine goesL_ (some 16) rfl rfl Star.func24 (by kernel_rfl) rfl #[.int .i64 a0, .slice A1 l1.length c1, .int .i64 10000000000000] rfl (by (try simp only [List.map_toArray, List.map_cons, List.map_nil]); first | done | rfl | (simp only [List.length_drop, List.length_take]; rfl)) ?_; (with_reducible refine (eir_covers.calls k1 a0 _ _ l1 10000000000000 true _ ?side1 ?side2 A13.out).mono ?_); (case side1 => repeat (first | exact (Kd.C_below HR1.out HB.out) | (with_reducible refine Kd.C_alloc ?_ _) | (with_reducible refine Kd.C_drewN ?_ _) | (with_reducible refine Kd.C_drew ?_))); (case side2 => exact HC1.out); rintro e w16 ⟨rfl, hb⟩; refine ⟨_, rfl, ?_⟩; have n0_ := Aside0.mk (below_step (by repeat (first | (with_reducible first | exact HB.out | apply below_alloc | apply pw_below_drewN | apply below_drew1) | exact HB.out)) hb); clear HB; have HB := n0_; clear n0_; (try clear hb); (try clear hb2); (try clear hk); (try clear hi)))
         go_ret2
         exact ⟨by first | rfl | (simp [errW_none, errW_some] <;> rfl) | (simp [*, errW_none, errW_some] <;> rfl), by repeat (first | (with_reducible first | exact HB.out | apply below_alloc | apply pw_below_drewN | apply below_drew1) | exact HB.out)⟩
        ·replace c14 := Bool.eq_false_iff.mpr c14
         subst c14
         have H1 : (eir_Solve.l1 k1 a0 l1 (-990000000000) 10000000000000) = some (r1, r2) := by rw [if_neg (show ¬ (false = true) by decide)] at H; exact H
         clear H
         have H := H1
         clear H1
         have H' := Aside0.mk H
         clear H
         go_wp2_with (first | ((with_reducible refine gate_callee (f := 22) rfl ?_); refine goesL_ (some 11) rfl rfl Star.func22 (by kernel_rfl) rfl #[.int .i64 a0, .slice A1 l1.length c1] rfl (by (try simp only [List.map_toArray, List.map_cons, List.map_nil]); first | done | rfl | (simp only [List.length_drop, List.length_take]; rfl)) ?_; (with_reducible refine (eir_may.calls k1 a0 _ _ l1 true _ ?side1 ?side2 A9.out).mono ?_); (case side1 => repeat (first | exact (Kd.C_below HR1.out HB.out) | (with_reducible refine Kd.C_alloc ?_ _) | (with_reducible refine Kd.C_drewN ?_ _) | (with_reducible refine Kd.C_drew ?_))); (case side2 => exact HC1.out); rintro e w' ⟨rfl, ⟨nd, rfl⟩⟩; refine ⟨_, rfl, ?_⟩) | ((with_reducible refine gate_callee (f := 24) rfl ?_); refine goesL_ (some 15) rfl rfl Star.func24 (by kernel_rfl) rfl #[.int .i64 a0, .slice A1 l1.length c1, .int .i64 (-990000000000)] rfl (by (try simp only [List.map_toArray, List.map_cons, List.map_nil]); first | done | rfl | (simp only [List.length_drop, List.length_take]; rfl)) ?_; (with_reducible refine (eir_covers.calls k1 a0 _ _ l1 (-990000000000) true _ ?side1 ?side2 A11.out).mono ?_); (case side1 => repeat (first | exact (Kd.C_below HR1.out (by repeat (first | (with_reducible first | exact HB.out | apply below_alloc | apply pw_below_drewN | apply below_drew1) | exact HB.out))) | (with_reducible refine Kd.C_alloc ?_ _) | (with_reducible refine Kd.C_drewN ?_ _) | (with_reducible refine Kd.C_drew ?_))); (case side2 => exact HC1.out); rintro e w17 ⟨rfl, hb⟩; refine ⟨_, rfl, ?_⟩; have n0_ := Aside0.mk (below_step (by repeat (first | (with_reducible first | exact HB.out | apply below_alloc | apply pw_below_drewN | apply below_drew1) | exact HB.out)) hb); clear HB; have HB := n0_; clear n0_; (try clear hb); (try clear hb2); (try clear hk); (try clear hi)) | ((with_reducible refine gate_callee (f := 24) rfl ?_); refine goesL_ (some 16) rfl rfl Star.func24 (by kernel_rfl) rfl #[.int .i64 a0, .slice A1 l1.length c1, .int .i64 10000000000000] rfl (by (try simp only [List.map_toArray, List.map_cons, List.map_nil]); first | done | rfl | (simp only [List.length_drop, List.length_take]; rfl)) ?_; (with_reducible refine (eir_covers.calls k1 a0 _ _ l1 10000000000000 false _ ?side1 ?side2 A13.out).mono ?_); (case side1 => repeat (first | exact (Kd.C_below HR1.out HB.out) | (with_reducible refine Kd.C_alloc ?_ _) | (with_reducible refine Kd.C_drewN ?_ _) | (with_reducible refine Kd.C_drew ?_))); (case side2 => exact HC1.out); rintro e w18 ⟨rfl, hb⟩; refine ⟨_, rfl, ?_⟩; have n0_ := Aside0.mk (below_step (by repeat (first | (with_reducible first | exact HB.out | apply below_alloc | apply pw_below_drewN | apply below_drew1) | exact HB.out)) hb); clear HB; have HB := n0_; clear n0_; (try clear hb); (try clear hb2); (try clear hk); (try clear hi)))
         go_loopg [19, 20] k1 (fun kq v19 v20 w' => ∃ (x19_2 : Int) (x20_2 : Int), v19 = .int .i64 x19_2 ∧ v20 = .int .i64 x20_2 ∧ Aside0 (eir_Solve.l1 kq a0 l1 x19_2 x20_2 = some (r1, r2)) ∧ Aside0 (kq ≤ k1) ∧ Aside0 (Below w.heap.size w w'))
         case atStart => exact ⟨((-990000000000)), (10000000000000), (by first | rfl | (simp; done) | (simp [*]; done)), (by first | rfl | (simp; done) | (simp [*]; done)), H', ⟨Nat.le_refl _⟩, ⟨by repeat (first | (with_reducible first | exact HB.out | apply below_alloc | apply pw_below_drewN | apply below_drew1) | exact HB.out)⟩⟩
         case round =>
          clear H'
          try clear c1; try clear p1; try clear q1; try clear hx1; try clear c2; try clear p2; try clear c3; try clear c3b0; try clear c3b1; try clear c4; try clear c4b0; try clear c4b1; try clear c6; try clear c6b0; try clear p6; try clear c7; try clear c7b0; try clear c8; try clear c8b0; try clear c10; try clear c12; try clear c14; try clear p17; try clear q17; try clear hx17; try clear hx174_0; try clear p174; try clear p2; try clear q174
          obtain ⟨x19_2, x20_2, rfl, rfl, HA, HK2, HB⟩ := hrel
          cases gk with
          | zero => exact absurd HA.out (by simp [eir_Solve.l1])
          | succ k2 =>
           have H := HA.out
           clear HA
           simp only [eir_Solve.l1] at H
           by_cases c19 : (wrap64 (x20_2 - x19_2)) > 3
           ·rw [if_pos c19] at H
            have c19b0 : decide (3 < (wrap64 (x20_2 - x19_2))) = true := decide_eq_true c19
            clear c19
            replace H := Option.bind_eq_some_iff.mp H
            obtain ⟨t178, A200, H⟩ := H
            replace H : ((eir_third_int64.f x19_2 x20_2 2).bind fun t179 => ((eir_covers.f k2 a0 l1 t178).bind fun t180 => ((eir_covers.f k2 a0 l1 t179).bind fun t181 => (if t180 = true then (if t181 = true then (eir_Solve.l1 k2 a0 l1 (mx (mx x19_2 t178) t179) x20_2) else (eir_Solve.l1 k2 a0 l1 (mx x19_2 t178) (mn x20_2 t179))) else (if t181 = true then (eir_Solve.l1 k2 a0 l1 (mx x19_2 t179) (mn x20_2 t178)) else (eir_Solve.l1 k2 a0 l1 x19_2 (mn (mn x20_2 t178) t179))))))) = some (r1, r2) := H
            have A20 := Aside0.mk A200
            clear A200
            replace H := Option.bind_eq_some_iff.mp H
            obtain ⟨t179, A210, H⟩ := H
            replace H : ((eir_covers.f k2 a0 l1 t178).bind fun t180 => ((eir_covers.f k2 a0 l1 t179).bind fun t181 => (if t180 = true then (if t181 = true then (eir_Solve.l1 k2 a0 l1 (mx (mx x19_2 t178) t179) x20_2) else (eir_Solve.l1 k2 a0 l1 (mx x19_2 t178) (mn x20_2 t179))) else (if t181 = true then (eir_Solve.l1 k2 a0 l1 (mx x19_2 t179) (mn x20_2 t178)) else (eir_Solve.l1 k2 a0 l1 x19_2 (mn (mn x20_2 t178) t179)))))) = some (r1, r2) := H
            have A21 := Aside0.mk A210
            clear A210
            replace H := Option.bind_eq_some_iff.mp H
            obtain ⟨t180, A220, H⟩ := H
            replace H : ((eir_covers.f k2 a0 l1 t179).bind fun t181 => (if t180 = true then (if t181 = true then (eir_Solve.l1 k2 a0 l1 (mx (mx x19_2 t178) t179) x20_2) else (eir_Solve.l1 k2 a0 l1 (mx x19_2 t178) (mn x20_2 t179))) else (if t181 = true then (eir_Solve.l1 k2 a0 l1 (mx x19_2 t179) (mn x20_2 t178)) else (eir_Solve.l1 k2 a0 l1 x19_2 (mn (mn x20_2 t178) t179))))) = some (r1, r2) := H
            have A22 := Aside0.mk A220
            clear A220
            replace H := Option.bind_eq_some_iff.mp H
            obtain ⟨t181, A230, H⟩ := H
            replace H : (if t180 = true then (if t181 = true then (eir_Solve.l1 k2 a0 l1 (mx (mx x19_2 t178) t179) x20_2) else (eir_Solve.l1 k2 a0 l1 (mx x19_2 t178) (mn x20_2 t179))) else (if t181 = true then (eir_Solve.l1 k2 a0 l1 (mx x19_2 t179) (mn x20_2 t178)) else (eir_Solve.l1 k2 a0 l1 x19_2 (mn (mn x20_2 t178) t179)))) = some (r1, r2) := H
            have A23 := Aside0.mk A230
            clear A230
            by_cases c24 : t180 = true
            ·subst c24
             have H1 : (if t181 = true then (eir_Solve.l1 k2 a0 l1 (mx (mx x19_2 t178) t179) x20_2) else (eir_Solve.l1 k2 a0 l1 (mx x19_2 t178) (mn x20_2 t179))) = some (r1, r2) := by rw [if_pos rfl] at H; exact H
             clear H
             have H := H1
             clear H1
             obtain ⟨ji25, hji25⟩ : ∃ j_ : Int, (mx x19_2 t178) = j_ := ⟨_, rfl⟩
             replace H : (if t181 = true then (eir_Solve.l1 k2 a0 l1 (mx (ji25) t179) x20_2) else (eir_Solve.l1 k2 a0 l1 ji25 (mn x20_2 t179))) = some (r1, r2) := by first | (rw [hji25] at H; exact H) | (simp only [hji25] at H ⊢; exact H)
             (try rw [hji25] at A20)
             (try rw [hji25] at A21)
             (try rw [hji25] at A22)
             (try rw [hji25] at A23)
             have hji25_ : (if x19_2 < t178 then t178 else x19_2) = ji25 := hji25
             by_cases c26 : t181 = true
             ·subst c26
              have H1 : (eir_Solve.l1 k2 a0 l1 (mx (ji25) t179) x20_2) = some (r1, r2) := by rw [if_pos rfl] at H; exact H
              clear H
              have H := H1
              clear H1
              obtain ⟨ji27, hji27⟩ : ∃ j_ : Int, (mx (ji25) t179) = j_ := ⟨_, rfl⟩
              replace H : (eir_Solve.l1 k2 a0 l1 ji27 x20_2) = some (r1, r2) := by first | (rw [hji27] at H; exact H) | (simp only [hji27] at H ⊢; exact H)
              (try rw [hji27] at A20)
              (try rw [hji27] at A21)
              (try rw [hji27] at A22)
              (try rw [hji27] at A23)
              have hji27_ : (if (ji25) < t179 then t179 else (ji25)) = ji27 := hji27
              have H' := Aside0.mk H
              clear H
              go_wp2_with (first | ((with_reducible refine gate_callee (f := 52) rfl ?_); refine goesL_ (some 23) rfl rfl Star.func52 (by kernel_rfl) rfl #[.int .i64 x19_2, .int .i64 x20_2, .int .i64 1] rfl (by (try simp only [List.map_toArray, List.map_cons, List.map_nil]); first | done | rfl | (simp only [List.length_drop, List.length_take]; rfl)) ?_; (with_reducible refine (eir_third_int64.calls x19_2 x20_2 1 t178 _ A20.out).mono ?_); rintro e w' ⟨rfl, ⟨nd, rfl⟩⟩; refine ⟨_, rfl, ?_⟩) | ((with_reducible refine gate_callee (f := 52) rfl ?_); refine goesL_ (some 24) rfl rfl Star.func52 (by kernel_rfl) rfl #[.int .i64 x19_2, .int .i64 x20_2, .int .i64 2] rfl (by (try simp only [List.map_toArray, List.map_cons, List.map_nil]); first | done | rfl | (simp only [List.length_drop, List.length_take]; rfl)) ?_; (with_reducible refine (eir_third_int64.calls x19_2 x20_2 2 t179 _ A21.out).mono ?_); rintro e w' ⟨rfl, ⟨nd, rfl⟩⟩; refine ⟨_, rfl, ?_⟩) | ((with_reducible refine gate_callee (f := 24) rfl ?_); refine goesL_ (some 25) rfl rfl Star.func24 (by kernel_rfl) rfl #[.int .i64 a0, .slice A1 l1.length c1, .int .i64 t178] rfl (by (try simp only [List.map_toArray, List.map_cons, List.map_nil]); first | done | rfl | (simp only [List.length_drop, List.length_take]; rfl)) ?_; (with_reducible refine (eir_covers.calls k2 a0 _ _ l1 t178 true _ ?side1 ?side2 A22.out).mono ?_); (case side1 => repeat (first | exact (Kd.C_below HR1.out (by repeat (first | (with_reducible first | exact HB.out | apply below_alloc | apply pw_below_drewN | apply below_drew1) | exact HB.out))) | (with_reducible refine Kd.C_alloc ?_ _) | (with_reducible refine Kd.C_drewN ?_ _) | (with_reducible refine Kd.C_drew ?_))); (case side2 => exact HC1.out); rintro e w28 ⟨rfl, hb⟩; refine ⟨_, rfl, ?_⟩; have n0_ := Aside0.mk (below_step (by repeat (first | (with_reducible first | exact HB.out | apply below_alloc | apply pw_below_drewN | apply below_drew1) | exact HB.out)) hb); clear HB; have HB := n0_; clear n0_; (try clear hb); (try clear hb2); (try clear hk); (try clear hi)) | ((with_reducible refine gate_callee (f := 24) rfl ?_); refine goesL_ (some 26) rfl rfl Star.func24 (by kernel_rfl) rfl #[.int .i64 a0, .slice A1 l1.length c1, .int .i64 t179] rfl (by (try simp only [List.map_toArray, List.map_cons, List.map_nil]); first | done | rfl | (simp only [List.length_drop, List.length_take]; rfl)) ?_; (with_reducible refine (eir_covers.calls k2 a0 _ _ l1 t179 true _ ?side1 ?side2 A23.out).mono ?_); (case side1 => repeat (first | exact (Kd.C_below HR1.out HB.out) | (with_reducible refine Kd.C_alloc ?_ _) | (with_reducible refine Kd.C_drewN ?_ _) | (with_reducible refine Kd.C_drew ?_))); (case side2 => exact HC1.out); rintro e w29 ⟨rfl, hb⟩; refine ⟨_, rfl, ?_⟩; have n0_ := Aside0.mk (below_step (by repeat (first | (with_reducible first | exact HB.out | apply below_alloc | apply pw_below_drewN | apply below_drew1) | exact HB.out)) hb); clear HB; have HB := n0_; clear n0_; (try clear hb); (try clear hb2); (try clear hk); (try clear hi)))
              go_roundg k2
              case measure => have := HK1.out; have := HK2.out; omega
              case rel => exact ⟨(ji27), (x20_2), (by first | rfl | (simp; done) | (simp only [← hji27] <;> (first | rfl | simp)) | (simp [*]; done)), (by first | rfl | (simp; done) | (simp [*]; done)), H', ⟨by have := HK1.out; have := HK2.out; omega⟩, ⟨by repeat (first | (with_reducible first | exact HB.out | apply below_alloc | apply pw_below_drewN | apply below_drew1) | exact HB.out)⟩⟩
             ·replace c26 := Bool.eq_false_iff.mpr c26
              subst c26
              have H1 : (eir_Solve.l1 k2 a0 l1 ji25 (mn x20_2 t179)) = some (r1, r2) := by rw [if_neg (show ¬ (false = true) by decide)] at H; exact H
              clear H
              have H := H1
              clear H1
              obtain ⟨ji30, hji30⟩ : ∃ j_ : Int, (mn x20_2 t179) = j_ := ⟨_, rfl⟩
              replace H : (eir_Solve.l1 k2 a0 l1 ji25 ji30) = some (r1, r2) := by first | (rw [hji30] at H; exact H) | (simp only [hji30] at H ⊢; exact H)
              (try rw [hji30] at A20)
              (try rw [hji30] at A21)
              (try rw [hji30] at A22)
              (try rw [hji30] at A23)
              have hji30_ : (if t179 < x20_2 then t179 else x20_2) = ji30 := hji30
              have H' := Aside0.mk H
              clear H
              go_wp2_with (first | ((with_reducible refine gate_callee (f := 52) rfl ?_); refine goesL_ (some 23) rfl rfl Star.func52 (by kernel_rfl) rfl #[.int .i64 x19_2, .int .i64 x20_2, .int .i64 1] rfl (by (try simp only [List.map_toArray, List.map_cons, List.map_nil]); first | done | rfl | (simp only [List.length_drop, List.length_take]; rfl)) ?_; (with_reducible refine (eir_third_int64.calls x19_2 x20_2 1 t178 _ A20.out).mono ?_); rintro e w' ⟨rfl, ⟨nd, rfl⟩⟩; refine ⟨_, rfl, ?_⟩) | ((with_reducible refine gate_callee (f := 52) rfl ?_); refine goesL_ (some 24) rfl rfl Star.func52 (by kernel_rfl) rfl #[.int .i64 x19_2, .int .i64 x20_2, .int .i64 2] rfl (by (try simp only [List.map_toArray, List.map_cons, List.map_nil]); first | done | rfl | (simp only [List.length_drop, List.length_take]; rfl)) ?_; (with_reducible refine (eir_third_int64.calls x19_2 x20_2 2 t179 _ A21.out).mono ?_); rintro e w' ⟨rfl, ⟨nd, rfl⟩⟩; refine ⟨_, rfl, ?_⟩) | ((with_reducible refine gate_callee (f := 24) rfl ?_); refine goesL_ (some 25) rfl rfl Star.func24 (by kernel_rfl) rfl #[.int .i64 a0, .slice A1 l1.length c1, .int .i64 t178] rfl (by (try simp only [List.map_toArray, List.map_cons, List.map_nil]); first | done | rfl | (simp only [List.length_drop, List.length_take]; rfl)) ?_; (with_reducible refine (eir_covers.calls k2 a0 _ _ l1 t178 true _ ?side1 ?side2 A22.out).mono ?_); (case side1 => repeat (first | exact (Kd.C_below HR1.out (by repeat (first | (with_reducible first | exact HB.out | apply below_alloc | apply pw_below_drewN | apply below_drew1) | exact HB.out))) | (with_reducible refine Kd.C_alloc ?_ _) | (with_reducible refine Kd.C_drewN ?_ _) | (with_reducible refine Kd.C_drew ?_))); (case side2 => exact HC1.out); rintro e w31 ⟨rfl, hb⟩; refine ⟨_, rfl, ?_⟩; have n0_ := Aside0.mk (below_step (by repeat (first | (with_reducible first | exact HB.out | apply below_alloc | apply pw_below_drewN | apply below_drew1) | exact HB.out)) hb); clear HB; have HB := n0_; clear n0_; (try clear hb); (try clear hb2); (try clear hk); (try clear hi)) | ((with_reducible refine gate_callee (f := 24) rfl ?_); refine goesL_ (some 26) rfl rfl Star.func24 (by kernel_rfl) rfl #[.int .i64 a0, .slice A1 l1.length c1, .int .i64 t179] rfl (by (try simp only [List.map_toArray, List.map_cons, List.map_nil]); first | done | rfl | (simp only [List.length_drop, List.length_take]; rfl)) ?_; (with_reducible refine (eir_covers.calls k2 a0 _ _ l1 t179 false _ ?side1 ?side2 A23.out).mono ?_); (case side1 => repeat (first | exact (Kd.C_below HR1.out HB.out) | (with_reducible refine Kd.C_alloc ?_ _) | (with_reducible refine Kd.C_drewN ?_ _) | (with_reducible refine Kd.C_drew ?_))); (case side2 => exact HC1.out); rintro e w32 ⟨rfl, hb⟩; refine ⟨_, rfl, ?_⟩; have n0_ := Aside0.mk (below_step (by repeat (first | (with_reducible first | exact HB.out | apply below_alloc | apply pw_below_drewN | apply below_drew1) | exact HB.out)) hb); clear HB; have HB := n0_; clear n0_; (try clear hb); (try clear hb2); (try clear hk); (try clear hi)))
              go_roundg k2
              case measure => have := HK1.out; have := HK2.out; omega
              case rel => exact ⟨(ji25), (ji30), (by first | rfl | (simp; done) | (simp only [← hji25] <;> (first | rfl | simp)) | (simp [*]; done)), (by first | rfl | (simp; done) | (simp only [← hji30] <;> (first | rfl | simp)) | (simp [*]; done)), H', ⟨by have := HK1.out; have := HK2.out; omega⟩, ⟨by repeat (first | (with_reducible first | exact HB.out | apply below_alloc | apply pw_below_drewN | apply below_drew1) | exact HB.out)⟩⟩
            ·replace c24 := Bool.eq_false_iff.mpr c24
             subst c24
             have H1 : (if t181 = true then (eir_Solve.l1 k2 a0 l1 (mx x19_2 t179) (mn x20_2 t178)) else (eir_Solve.l1 k2 a0 l1 x19_2 (mn (mn x20_2 t178) t179))) = some (r1, r2) := by rw [if_neg (show ¬ (false = true) by decide)] at H; exact H
             clear H
             have H := H1
             clear H1
             obtain ⟨ji33, hji33⟩ : ∃ j_ : Int, (mn x20_2 t178) = j_ := ⟨_, rfl⟩
             replace H : (if t181 = true then (eir_Solve.l1 k2 a0 l1 (mx x19_2 t179) ji33) else (eir_Solve.l1 k2 a0 l1 x19_2 (mn (ji33) t179))) = some (r1, r2) := by first | (rw [hji33] at H; exact H) | (simp only [hji33] at H ⊢; exact H)
             (try rw [hji33] at A20)
             (try rw [hji33] at A21)
             (try rw [hji33] at A22)
             (try rw [hji33] at A23)
             have hji33_ : (if t178 < x20_2 then t178 else x20_2) = ji33 := hji33
             by_cases c34 : t181 = true
             ·subst c34
              have H1 : (eir_Solve.l1 k2 a0 l1 (mx x19_2 t179) ji33) = some (r1, r2) := by rw [if_pos rfl] at H; exact H
              clear H
              have H := H1
              clear H1
              obtain ⟨ji35, hji35⟩ : ∃ j_ : Int, (mx x19_2 t179) = j_ := ⟨_, rfl⟩
              replace H : (eir_Solve.l1 k2 a0 l1 ji35 ji33) = some (r1, r2) := by first | (rw [hji35] at H; exact H) | (simp only [hji35] at H ⊢; exact H)
              (try rw [hji35] at A20)
              (try rw [hji35] at A21)
              (try rw [hji35] at A22)
              (try rw [hji35] at A23)
              have hji35_ : (if x19_2 < t179 then t179 else x19_2) = ji35 := hji35
              have H' := Aside0.mk H
              clear H
              go_wp2_with (first | ((with_reducible refine gate_callee (f := 52) rfl ?_); refine goesL_ (some 23) rfl rfl Star.func52 (by kernel_rfl) rfl #[.int .i64 x19_2, .int .i64 x20_2, .int .i64 1] rfl (by (try simp only [List.map_toArray, List.map_cons, List.map_nil]); first | done | rfl | (simp only [List.length_drop, List.length_take]; rfl)) ?_; (with_reducible refine (eir_third_int64.calls x19_2 x20_2 1 t178 _ A20.out).mono ?_); rintro e w' ⟨rfl, ⟨nd, rfl⟩⟩; refine ⟨_, rfl, ?_⟩) | ((with_reducible refine gate_callee (f := 52) rfl ?_); refine goesL_ (some 24) rfl rfl Star.func52 (by kernel_rfl) rfl #[.int .i64 x19_2, .int .i64 x20_2, .int .i64 2] rfl (by (try simp only [List.map_toArray, List.map_cons, List.map_nil]); first | done | rfl | (simp only [List.length_drop, List.length_take]; rfl)) ?_; (with_reducible refine (eir_third_int64.calls x19_2 x20_2 2 t179 _ A21.out).mono ?_); rintro e w' ⟨rfl, ⟨nd, rfl⟩⟩; refine ⟨_, rfl, ?_⟩) | ((with_reducible refine gate_callee (f := 24) rfl ?_); refine goesL_ (some 25) rfl rfl Star.func24 (by kernel_rfl) rfl #[.int .i64 a0, .slice A1 l1.length c1, .int .i64 t178] rfl (by (try simp only [List.map_toArray, List.map_cons, List.map_nil]); first | done | rfl | (simp only [List.length_drop, List.length_take]; rfl)) ?_; (with_reducible refine (eir_covers.calls k2 a0 _ _ l1 t178 false _ ?side1 ?side2 A22.out).mono ?_); (case side1 => repeat (first | exact (Kd.C_below HR1.out (by repeat (first | (with_reducible first | exact HB.out | apply below_alloc | apply pw_below_drewN | apply below_drew1) | exact HB.out))) | (with_reducible refine Kd.C_alloc ?_ _) | (with_reducible refine Kd.C_drewN ?_ _) | (with_reducible refine Kd.C_drew ?_))); (case side2 => exact HC1.out); rintro e w36 ⟨rfl, hb⟩; refine ⟨_, rfl, ?_⟩; have n0_ := Aside0.mk (below_step (by repeat (first | (with_reducible first | exact HB.out | apply below_alloc | apply pw_below_drewN | apply below_drew1) | exact HB.out)) hb); clear HB; have HB := n0_; clear n0_; (try clear hb); (try clear hb2); (try clear hk); (try clear hi)) | ((with_reducible refine gate_callee (f := 24) rfl ?_); refine goesL_ (some 26) rfl rfl Star.func24 (by kernel_rfl) rfl #[.int .i64 a0, .slice A1 l1.length c1, .int .i64 t179] rfl (by (try simp only [List.map_toArray, List.map_cons, List.map_nil]); first | done | rfl | (simp only [List.length_drop, List.length_take]; rfl)) ?_; (with_reducible refine (eir_covers.calls k2 a0 _ _ l1 t179 true _ ?side1 ?side2 A23.out).mono ?_); (case side1 => repeat (first | exact (Kd.C_below HR1.out HB.out) | (with_reducible refine Kd.C_alloc ?_ _) | (with_reducible refine Kd.C_drewN ?_ _) | (with_reducible refine Kd.C_drew ?_))); (case side2 => exact HC1.out); rintro e w37 ⟨rfl, hb⟩; refine ⟨_, rfl, ?_⟩; have n0_ := Aside0.mk (below_step (by repeat (first | (with_reducible first | exact HB.out | apply below_alloc | apply pw_below_drewN | apply below_drew1) | exact HB.out)) hb); clear HB; have HB := n0_; clear n0_; (try clear hb); (try clear hb2); (try clear hk); (try clear hi)))
              go_roundg k2
              case measure => have := HK1.out; have := HK2.out; omega
              case rel => exact ⟨(ji35), (ji33), (by first | rfl | (simp; done) | (simp only [← hji35] <;> (first | rfl | simp)) | (simp [*]; done)), (by first | rfl | (simp; done) | (simp only [← hji33] <;> (first | rfl | simp)) | (simp [*]; done)), H', ⟨by have := HK1.out; have := HK2.out; omega⟩, ⟨by repeat (first | (with_reducible first | exact HB.out | apply below_alloc | apply pw_below_drewN | apply below_drew1) | exact HB.out)⟩⟩
             ·replace c34 := Bool.eq_false_iff.mpr c34
              subst c34
              have H1 : (eir_Solve.l1 k2 a0 l1 x19_2 (mn (ji33) t179)) = some (r1, r2) := by rw [if_neg (show ¬ (false = true) by decide)] at H; exact H
              clear H
              have H := H1
              clear H1
              obtain ⟨ji38, hji38⟩ : ∃ j_ : Int, (mn (ji33) t179) = j_ := ⟨_, rfl⟩
              replace H : (eir_Solve.l1 k2 a0 l1 x19_2 ji38) = some (r1, r2) := by first | (rw [hji38] at H; exact H) | (simp only [hji38] at H ⊢; exact H)
              (try rw [hji38] at A20)
              (try rw [hji38] at A21)
              (try rw [hji38] at A22)
              (try rw [hji38] at A23)
              have hji38_ : (if t179 < (ji33) then t179 else (ji33)) = ji38 := hji38
              have H' := Aside0.mk H
              clear H
              go_wp2_with (first | ((with_reducible refine gate_callee (f := 52) rfl ?_); refine goesL_ (some 23) rfl rfl Star.func52 (by kernel_rfl) rfl #[.int .i64 x19_2, .int .i64 x20_2, .int .i64 1] rfl (by (try simp only [List.map_toArray, List.map_cons, List.map_nil]); first | done | rfl | (simp only [List.length_drop, List.length_take]; rfl)) ?_; (with_reducible refine (eir_third_int64.calls x19_2 x20_2 1 t178 _ A20.out).mono ?_); rintro e w' ⟨rfl, ⟨nd, rfl⟩⟩; refine ⟨_, rfl, ?_⟩) | ((with_reducible refine gate_callee (f := 52) rfl ?_); refine goesL_ (some 24) rfl rfl Star.func52 (by kernel_rfl) rfl #[.int .i64 x19_2, .int .i64 x20_2, .int .i64 2] rfl (by (try simp only [List.map_toArray, List.map_cons, List.map_nil]); first | done | rfl | (simp only [List.length_drop, List.length_take]; rfl)) ?_; (with_reducible refine (eir_third_int64.calls x19_2 x20_2 2 t179 _ A21.out).mono ?_); rintro e w' ⟨rfl, ⟨nd, rfl⟩⟩; refine ⟨_, rfl, ?_⟩) | ((with_reducible refine gate_callee (f := 24) rfl ?_); refine goesL_ (some 25) rfl rfl Star.func24 (by kernel_rfl) rfl #[.int .i64 a0, .slice A1 l1.length c1, .int .i64 t178] rfl (by (try simp only [List.map_toArray, List.map_cons, List.map_nil]); first | done | rfl | (simp only [List.length_drop, List.length_take]; rfl)) ?_; (with_reducible refine (eir_covers.calls k2 a0 _ _ l1 t178 false _ ?side1 ?side2 A22.out).mono ?_); (case side1 => repeat (first | exact (Kd.C_below HR1.out (by repeat (first | (with_reducible first | exact HB.out | apply below_alloc | apply pw_below_drewN | apply below_drew1) | exact HB.out))) | (with_reducible refine Kd.C_alloc ?_ _) | (with_reducible refine Kd.C_drewN ?_ _) | (with_reducible refine Kd.C_drew ?_))); (case side2 => exact HC1.out); rintro e w39 ⟨rfl, hb⟩; refine ⟨_, rfl, ?_⟩; have n0_ := Aside0.mk (below_step (by repeat (first | (with_reducible first | exact HB.out | apply below_alloc | apply pw_below_drewN | apply below_drew1) | exact HB.out)) hb); clear HB; have HB := n0_; clear n0_; (try clear hb); (try clear hb2); (try clear hk); (try clear hi)) | ((with_reducible refine gate_callee (f := 24) rfl ?_); refine goesL_ (some 26) rfl rfl Star.func24 (by kernel_rfl) rfl #[.int .i64 a0, .slice A1 l1.length c1, .int .i64 t179] rfl (by (try simp only [List.map_toArray, List.map_cons, List.map_nil]); first | done | rfl | (simp only [List.length_drop, List.length_take]; rfl)) ?_; (with_reducible refine (eir_covers.calls k2 a0 _ _ l1 t179 false _ ?side1 ?side2 A23.out).mono ?_); (case side1 => repeat (first | exact (Kd.C_below HR1.out HB.out) | (with_reducible refine Kd.C_alloc ?_ _) | (with_reducible refine Kd.C_drewN ?_ _) | (with_reducible refine Kd.C_drew ?_))); (case side2 => exact HC1.out); rintro e w40 ⟨rfl, hb⟩; refine ⟨_, rfl, ?_⟩; have n0_ := Aside0.mk (below_step (by repeat (first | (with_reducible first | exact HB.out | apply below_alloc | apply pw_below_drewN | apply below_drew1) | exact HB.out)) hb); clear HB; have HB := n0_; clear n0_; (try clear hb); (try clear hb2); (try clear hk); (try clear hi)))
              go_roundg k2
              case measure => have := HK1.out; have := HK2.out; omega
              case rel => exact ⟨(x19_2), (ji38), (by first | rfl | (simp; done) | (simp [*]; done)), (by first | rfl | (simp; done) | (simp only [← hji38] <;> (first | rfl | simp)) | (simp [*]; done)), H', ⟨by have := HK1.out; have := HK2.out; omega⟩, ⟨by repeat (first | (with_reducible first | exact HB.out | apply below_alloc | apply pw_below_drewN | apply below_drew1) | exact HB.out)⟩⟩
           ·rw [if_neg c19] at H
            have c19b0 : decide (3 < (wrap64 (x20_2 - x19_2))) = false := decide_eq_false c19
            clear c19
            have H' := Aside0.mk H
            clear H
            go_wp2
            go_loopg [19] k2 (fun kq v19 w' => ∃ (x19_3 : Int), v19 = .int .i64 x19_3 ∧ Aside0 (eir_Solve.l2 kq a0 l1 x19_3 x20_2 = some (r1, r2)) ∧ Aside0 (kq ≤ k2) ∧ Aside0 (Below w.heap.size w w'))
            case atStart => exact ⟨(x19_2), (by first | rfl | (simp; done) | (simp [*]; done)), H', ⟨Nat.le_refl _⟩, ⟨by repeat (first | (with_reducible first | exact HB.out | apply below_alloc | apply pw_below_drewN | apply below_drew1) | exact HB.out)⟩⟩
            case round =>
             clear H'
             try clear c1; try clear p1; try clear q1; try clear hx1; try clear c2; try clear p2; try clear c3; try clear c3b0; try clear c3b1; try clear c4; try clear c4b0; try clear c4b1; try clear c5; try clear c6; try clear c6b0; try clear p6; try clear c7; try clear c7b0; try clear c8; try clear c8b0; try clear c10; try clear c12; try clear c14; try clear p17; try clear q17; try clear hx17; try clear c19; try clear c19b0; try clear c22; try clear c24; try clear c26; try clear c34; try clear hx174_0; try clear p1; try clear p17; try clear p174; try clear p2; try clear p6; try clear q1; try clear q17; try clear q174
             obtain ⟨x19_3, rfl, HA, HK3, HB⟩ := hrel
             cases gk with
             | zero => exact absurd HA.out (by simp [eir_Solve.l2])
             | succ k3 =>
              have H := HA.out
              clear HA
              simp only [eir_Solve.l2] at H
              by_cases c41 : (wrap64 (x20_2 - x19_3)) > 1
              ·rw [if_pos c41] at H
               have c41b0 : decide (1 < (wrap64 (x20_2 - x19_3))) = true := decide_eq_true c41
               clear c41
               replace H := Option.bind_eq_some_iff.mp H
               obtain ⟨t182, A420, H⟩ := H
               replace H : (if t182 = true then (eir_Solve.l2 k3 a0 l1 (wrap64 (x19_3 + 1)) x20_2) else (some (x19_3, 0))) = some (r1, r2) := H
               have A42 := Aside0.mk A420
               clear A420
               by_cases c43 : t182 = true
               ·subst c43
                have H1 : (eir_Solve.l2 k3 a0 l1 (wrap64 (x19_3 + 1)) x20_2) = some (r1, r2) := by rw [if_pos rfl] at H; exact H
                clear H
                have H := H1
                clear H1
                have H' := Aside0.mk H
                clear H
                go_wp2_with (first | ((with_reducible refine gate_callee (f := 24) rfl ?_); refine goesL_ (some 34) rfl rfl Star.func24 (by kernel_rfl) rfl #[.int .i64 a0, .slice A1 l1.length c1, .int .i64 (wrap64 (x19_3 + 1))] rfl (by (try simp only [List.map_toArray, List.map_cons, List.map_nil]); first | done | rfl | (simp only [List.length_drop, List.length_take]; rfl)) ?_; (with_reducible refine (eir_covers.calls k3 a0 _ _ l1 (wrap64 (x19_3 + 1)) true _ ?side1 ?side2 A42.out).mono ?_); (case side1 => repeat (first | exact (Kd.C_below HR1.out HB.out) | (with_reducible refine Kd.C_alloc ?_ _) | (with_reducible refine Kd.C_drewN ?_ _) | (with_reducible refine Kd.C_drew ?_))); (case side2 => exact HC1.out); rintro e w44 ⟨rfl, hb⟩; refine ⟨_, rfl, ?_⟩; have n0_ := Aside0.mk (below_step (by repeat (first | (with_reducible first | exact HB.out | apply below_alloc | apply pw_below_drewN | apply below_drew1) | exact HB.out)) hb); clear HB; have HB := n0_; clear n0_; (try clear hb); (try clear hb2); (try clear hk); (try clear hi)))
                go_roundg k3
                case measure => have := HK1.out; have := HK2.out; have := HK3.out; omega
                case rel => exact ⟨(wrap64 (x19_3 + 1)), (by first | rfl | (simp; done) | (simp [*]; done)), H', ⟨by have := HK1.out; have := HK2.out; have := HK3.out; omega⟩, ⟨by repeat (first | (with_reducible first | exact HB.out | apply below_alloc | apply pw_below_drewN | apply below_drew1) | exact HB.out)⟩⟩
               ·replace c43 := Bool.eq_false_iff.mpr c43
                subst c43
                have H1 : (some (x19_3, 0)) = some (r1, r2) := by rw [if_neg (show ¬ (false = true) by decide)] at H; exact H
                clear H
                have H := H1
                clear H1
                simp only [Option.some.injEq, Prod.mk.injEq] at H
                obtain ⟨rfl, rfl⟩ := H
                go_wp2_with (first | ((with_reducible refine gate_callee (f := 24) rfl ?_); refine goesL_ (some 34) rfl rfl Star.func24 (by kernel_rfl) rfl #[.int .i64 a0, .slice A1 l1.length c1, .int .i64 (wrap64 (x19_3 + 1))] rfl (by (try simp only [List.map_toArray, List.map_cons, List.map_nil]); first | done | rfl | (simp only [List.length_drop, List.length_take]; rfl)) ?_; (with_reducible refine (eir_covers.calls k3 a0 _ _ l1 (wrap64 (x19_3 + 1)) false _ ?side1 ?side2 A42.out).mono ?_); (case side1 => repeat (first | exact (Kd.C_below HR1.out HB.out) | (with_reducible refine Kd.C_alloc ?_ _) | (with_reducible refine Kd.C_drewN ?_ _) | (with_reducible refine Kd.C_drew ?_))); (case side2 => exact HC1.out); rintro e w45 ⟨rfl, hb⟩; refine ⟨_, rfl, ?_⟩; have n0_ := Aside0.mk (below_step (by repeat (first | (with_reducible first | exact HB.out | apply below_alloc | apply pw_below_drewN | apply below_drew1) | exact HB.out)) hb); clear HB; have HB := n0_; clear n0_; (try clear hb); (try clear hb2); (try clear hk); (try clear hi)))
                go_ret2
                exact ⟨by first | rfl | (simp [errW_none, errW_some] <;> rfl) | (simp [*, errW_none, errW_some] <;> rfl), by repeat (first | (with_reducible first | exact HB.out | apply below_alloc | apply pw_below_drewN | apply below_drew1) | exact HB.out)⟩
              ·rw [if_neg c41] at H
               have c41b0 : decide (1 < (wrap64 (x20_2 - x19_3))) = false := decide_eq_false c41
               clear c41
               simp only [Option.some.injEq, Prod.mk.injEq] at H
               obtain ⟨rfl, rfl⟩ := H
               go_wp2
               go_ret2
               exact ⟨by first | rfl | (simp [errW_none, errW_some] <;> rfl) | (simp [*, errW_none, errW_some] <;> rfl), by repeat (first | (with_reducible first | exact HB.out | apply below_alloc | apply pw_below_drewN | apply below_drew1) | exact HB.out)⟩
       ·replace c12 := Bool.eq_false_iff.mpr c12
        subst c12
        have H1 : (some (0, 13)) = some (r1, r2) := by rw [if_neg (show ¬ (false = true) by decide)] at H; exact H
        clear H
        have H := H1
        clear H1
        simp only [Option.some.injEq, Prod.mk.injEq] at H
        obtain ⟨rfl, rfl⟩ := H
        go_wp2_with (first | ((with_reducible refine gate_callee (f := 22) rfl ?_); refine goesL_ (some 11) rfl rfl Star.func22 (by kernel_rfl) rfl #[.int .i64 a0, .slice A1 l1.length c1] rfl (by (try simp only [List.map_toArray, List.map_cons, List.map_nil]); first | done | rfl | (simp only [List.length_drop, List.length_take]; rfl)) ?_; (with_reducible refine (eir_may.calls k1 a0 _ _ l1 true _ ?side1 ?side2 A9.out).mono ?_); (case side1 => repeat (first | exact (Kd.C_below HR1.out HB.out) | (with_reducible refine Kd.C_alloc ?_ _) | (with_reducible refine Kd.C_drewN ?_ _) | (with_reducible refine Kd.C_drew ?_))); (case side2 => exact HC1.out); rintro e w' ⟨rfl, ⟨nd, rfl⟩⟩; refine ⟨_, rfl, ?_⟩) | ((with_reducible refine gate_callee (f := 24) rfl ?_); refine goesL_ (some 15) rfl rfl Star.func24 (by kernel_rfl) rfl #[.int .i64 a0, .slice A1 l1.length c1, .int .i64 (-990000000000)] rfl (by (try simp only [List.map_toArray, List.map_cons, List.map_nil]); first | done | rfl | (simp only [List.length_drop, List.length_take]; rfl)) ?_; (with_reducible refine (eir_covers.calls k1 a0 _ _ l1 (-990000000000) false _ ?side1 ?side2 A11.out).mono ?_); (case side1 => repeat (first | exact (Kd.C_below HR1.out (by repeat (first | (with_reducible first | exact HB.out | apply below_alloc | apply pw_below_drewN | apply below_drew1) | exact HB.out))) | (with_reducible refine Kd.C_alloc ?_ _) | (with_reducible refine Kd.C_drewN ?_ _) | (with_reducible refine Kd.C_drew ?_))); (case side2 => exact HC1.out); rintro e w46 ⟨rfl, hb⟩; refine ⟨_, rfl, ?_⟩; have n0_ := Aside0.mk (below_step (by repeat (first | (with_reducible first | exact HB.out | apply below_alloc | apply pw_below_drewN | apply below_drew1) | exact HB.out)) hb); clear HB; have HB := n0_; clear n0_; (try clear hb); (try clear hb2); (try clear hk); (try clear hi)))
        go_ret2
        exact ⟨by first | rfl | (simp [errW_none, errW_some] <;> rfl) | (simp [*, errW_none, errW_some] <;> rfl), by repeat (first | (with_reducible first | exact HB.out | apply below_alloc | apply pw_below_drewN | apply below_drew1) | exact HB.out)⟩
      ·replace c10 := Bool.eq_false_iff.mpr c10
       subst c10
       have H1 : (some (0, 2)) = some (r1, r2) := by rw [if_neg (show ¬ (false = true) by decide)] at H; exact H
       clear H
       have H := H1
       clear H1
       simp only [Option.some.injEq, Prod.mk.injEq] at H
       obtain ⟨rfl, rfl⟩ := H
       go_wp2_with (first | ((with_reducible refine gate_callee (f := 22) rfl ?_); refine goesL_ (some 11) rfl rfl Star.func22 (by kernel_rfl) rfl #[.int .i64 a0, .slice A1 l1.length c1] rfl (by (try simp only [List.map_toArray, List.map_cons, List.map_nil]); first | done | rfl | (simp only [List.length_drop, List.length_take]; rfl)) ?_; (with_reducible refine (eir_may.calls k1 a0 _ _ l1 false _ ?side1 ?side2 A9.out).mono ?_); (case side1 => repeat (first | exact (Kd.C_below HR1.out HB.out) | (with_reducible refine Kd.C_alloc ?_ _) | (with_reducible refine Kd.C_drewN ?_ _) | (with_reducible refine Kd.C_drew ?_))); (case side2 => exact HC1.out); rintro e w' ⟨rfl, ⟨nd, rfl⟩⟩; refine ⟨_, rfl, ?_⟩))
       go_ret2
       exact ⟨by first | rfl | (simp [errW_none, errW_some] <;> rfl) | (simp [*, errW_none, errW_some] <;> rfl), by repeat (first | (with_reducible first | exact HB.out | apply below_alloc | apply pw_below_drewN | apply below_drew1) | exact HB.out)⟩
  ·rw [if_neg c4] at H
   exact absurd H (by simp)
 ·rw [if_neg c3] at H
  exact absurd H (by simp)
end Go.Proofs.Ytjgleaakgbnjgaa.S
end
