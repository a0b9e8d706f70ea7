/- Texts of the statement SchedBuildsSaid, laid together. Conditions: none beyond those that each theorem names. -/
import Derived.Test.YtchpeobenlnemaaSx0
import Derived.Test.YtchpeobenlnemaaSxMathBitsDiv64
import Derived.Test.YtchpeobenlnemaaSxLombardref08Check
import Derived.Test.YtchpeobenlnemaaSxLombardref03Interest
import Derived.Test.YtchpeobenlnemaaSxLombardref08Level
import Derived.Test.YtchpeobenlnemaaSxLombardref01Split
section
namespace Go.Proofs.Ytchpeobenlnemaa.S
open Go.RowKit Go.Proofs.YtchpeobenlnemaaW.PrintWords Go.Proofs.YtchpeobenlnemaaW.PrintLast Go.Proofs.YtchpeobenlnemaaW.PrintMore
attribute [local go_sem] max2_int min2_int max_two min_two max_three min_three max_four min_four   -- for this text's walks alone
attribute [local go_sem] Go.Proofs.Ytchpeobenlnemaa.XWalk.cell2
set_option linter.unusedVariables false
set_option linter.unusedSimpArgs false

/-! ### math_bits_Mul64: function 42 -/
def math_bits_Mul64.f (a0 : Int) (a1 : Int) : Option (Int × Int) := some (IntKind.u64.wrap ((IntKind.u64.wrap ((IntKind.u64.wrap ((a0 / 4294967296) * (a1 / 4294967296))) + ((IntKind.u64.wrap ((IntKind.u64.wrap ((a0 / 4294967296) * (Go.bits .and .u64 a1 4294967295))) + ((IntKind.u64.wrap ((Go.bits .and .u64 a0 4294967295) * (Go.bits .and .u64 a1 4294967295))) / 4294967296))) / 4294967296))) + ((IntKind.u64.wrap ((Go.bits .and .u64 (IntKind.u64.wrap ((IntKind.u64.wrap ((a0 / 4294967296) * (Go.bits .and .u64 a1 4294967295))) + ((IntKind.u64.wrap ((Go.bits .and .u64 a0 4294967295) * (Go.bits .and .u64 a1 4294967295))) / 4294967296))) 4294967295) + (IntKind.u64.wrap ((Go.bits .and .u64 a0 4294967295) * (a1 / 4294967296))))) / 4294967296)), IntKind.u64.wrap (a0 * a1))
set_option maxHeartbeats 8000000 in
set_option maxRecDepth 100000 in
theorem math_bits_Mul64.calls (a0 : Int) (a1 : Int) (r1 : Int) (r2 : Int) (w : World) (h : math_bits_Mul64.f a0 a1 = some (r1, r2)) :
  Calls Try.prog 42 #[.int .u64 a0, .int .u64 a1] w fun e w' => e = .returned (.tuple #[.int .u64 r1, .int .u64 r2]) ∧ Drawn0 w w' := by
 have H : (some (IntKind.u64.wrap ((IntKind.u64.wrap ((IntKind.u64.wrap ((a0 / 4294967296) * (a1 / 4294967296))) + ((IntKind.u64.wrap ((IntKind.u64.wrap ((a0 / 4294967296) * (Go.bits .and .u64 a1 4294967295))) + ((IntKind.u64.wrap ((Go.bits .and .u64 a0 4294967295) * (Go.bits .and .u64 a1 4294967295))) / 4294967296))) / 4294967296))) + ((IntKind.u64.wrap ((Go.bits .and .u64 (IntKind.u64.wrap ((IntKind.u64.wrap ((a0 / 4294967296) * (Go.bits .and .u64 a1 4294967295))) + ((IntKind.u64.wrap ((Go.bits .and .u64 a0 4294967295) * (Go.bits .and .u64 a1 4294967295))) / 4294967296))) 4294967295) + (IntKind.u64.wrap ((Go.bits .and .u64 a0 4294967295) * (a1 / 4294967296))))) / 4294967296)), IntKind.u64.wrap (a0 * a1))) = some (r1, r2) := h
 clear h
 simp only [Option.some.injEq, Prod.mk.injEq] at H
 obtain ⟨rfl, rfl⟩ := H
 go_enter Try.func42, Try.ntmps42
 go_wp2
 go_ret2
 exact ⟨by first | rfl | (simp; done) | (simp [*]; done), by repeat (first | exact Drawn0.refl _ | apply Drawn0.step)⟩

end Go.Proofs.Ytchpeobenlnemaa.S
end

section
namespace Go.Proofs.Ytchpeobenlnemaa.S
open Go.RowKit Go.Proofs.YtchpeobenlnemaaW.PrintWords Go.Proofs.YtchpeobenlnemaaW.PrintLast Go.Proofs.YtchpeobenlnemaaW.PrintMore
attribute [local go_sem] max2_int min2_int max_two min_two max_three min_three max_four min_four   -- for this text's walks alone
attribute [local go_sem] Go.Proofs.Ytchpeobenlnemaa.XWalk.cell2
set_option linter.unusedVariables false
set_option linter.unusedSimpArgs false

/-! ### money_May: function 41 -/
def money_May.f (a0 : Int) : Option (Bool) := if a0 ≥ (-10000000000000) then (some (decide (a0 ≤ 10000000000000))) else (some false)
set_option maxHeartbeats 8000000 in
set_option maxRecDepth 100000 in
theorem money_May.calls (a0 : Int) (r : Bool) (w : World) (h : money_May.f a0 = some r) :
  Calls Try.prog 41 #[.int .i64 a0] w fun e w' => e = .returned (.bool r) ∧ Drawn0 w w' := by
 have H : (if a0 ≥ (-10000000000000) then (some (decide (a0 ≤ 10000000000000))) else (some false)) = some r := h
 clear h
 by_cases c2 : a0 ≥ (-10000000000000)
 ·rw [if_pos c2] at H
  have c2b0 : decide ((-10000000000000) ≤ a0) = true := decide_eq_true c2
  clear c2
  obtain rfl := Option.some.inj H
  go_enter Try.func41, Try.ntmps41
  go_wp2
  go_ret
  exact ⟨by first | rfl | (simp; done) | (simp [*]; done), by repeat (first | exact Drawn0.refl _ | apply Drawn0.step)⟩
 ·rw [if_neg c2] at H
  have c2b0 : decide ((-10000000000000) ≤ a0) = false := decide_eq_false c2
  clear c2
  obtain rfl := Option.some.inj H
  go_enter Try.func41, Try.ntmps41
  go_wp2
  go_ret
  exact ⟨by first | rfl | (simp; done) | (simp [*]; done), by repeat (first | exact Drawn0.refl _ | apply Drawn0.step)⟩

end Go.Proofs.Ytchpeobenlnemaa.S
end

section
namespace Go.Proofs.Ytchpeobenlnemaa.S
open Go.RowKit Go.Proofs.YtchpeobenlnemaaW.PrintWords Go.Proofs.YtchpeobenlnemaaW.PrintLast Go.Proofs.YtchpeobenlnemaaW.PrintMore
attribute [local go_sem] max2_int min2_int max_two min_two max_three min_three max_four min_four   -- for this text's walks alone
attribute [local go_sem] Go.Proofs.Ytchpeobenlnemaa.XWalk.cell2
set_option linter.unusedVariables false
set_option linter.unusedSimpArgs false

/-! ### money_size_int64: function 43 -/
def money_size_int64.f (a0 : Int) : Option (Int) := if a0 < 0 then (some (IntKind.u64.wrap (-(IntKind.u64.wrap (a0))))) else (some (IntKind.u64.wrap (a0)))
set_option maxHeartbeats 8000000 in
set_option maxRecDepth 100000 in
theorem money_size_int64.calls (a0 : Int) (r : Int) (w : World) (h : money_size_int64.f a0 = some r) :
  Calls Try.prog 43 #[.int .i64 a0] w fun e w' => e = .returned (.int .u64 r) ∧ Drawn0 w w' := by
 have H : (if a0 < 0 then (some (IntKind.u64.wrap (-(IntKind.u64.wrap (a0))))) else (some (IntKind.u64.wrap (a0)))) = some r := h
 clear h
 by_cases c2 : a0 < 0
 ·rw [if_pos c2] at H
  have c2b0 : decide (a0 < 0) = true := decide_eq_true c2
  clear c2
  obtain rfl := Option.some.inj H
  go_enter Try.func43, Try.ntmps43
  go_wp2
  go_ret
  exact ⟨by first | rfl | (simp; done) | (simp [*]; done), by repeat (first | exact Drawn0.refl _ | apply Drawn0.step)⟩
 ·rw [if_neg c2] at H
  have c2b0 : decide (a0 < 0) = false := decide_eq_false c2
  clear c2
  obtain rfl := Option.some.inj H
  go_enter Try.func43, Try.ntmps43
  go_wp2
  go_ret
  exact ⟨by first | rfl | (simp; done) | (simp [*]; done), by repeat (first | exact Drawn0.refl _ | apply Drawn0.step)⟩

end Go.Proofs.Ytchpeobenlnemaa.S
end

section
namespace Go.Proofs.Ytchpeobenlnemaa.S
open Go.RowKit Go.Proofs.YtchpeobenlnemaaW.PrintWords Go.Proofs.YtchpeobenlnemaaW.PrintLast Go.Proofs.YtchpeobenlnemaaW.PrintMore
attribute [local go_sem] max2_int min2_int max_two min_two max_three min_three max_four min_four   -- for this text's walks alone
attribute [local go_sem] Go.Proofs.Ytchpeobenlnemaa.XWalk.cell2
set_option linter.unusedVariables false
set_option linter.unusedSimpArgs false

/-! ### money_Split: function 21 -/
mutual
def money_Split.j0 : Nat → Int → List Int → Bool → Option (List Int × Int)
 | 0, _, _, _ => none
 | k + 1, x0, x1, x31 => if x31 = true then (some (([] : List Int), 2)) else (money_Split.l0 k x0 x1 0 x1 (x1.length : Int) 0)
def money_Split.l0 : Nat → Int → List Int → Int → List Int → Int → Int → Option (List Int × Int)
 | 0, _, _, _, _, _, _ => none
 | k + 1, x0, x1, x6, x32, x33, x34 => if x34 < x33 then (if 0 ≤ x34 then (if x34 < (x32.length : Int) then (if (rd x32 x34) < 0 then (some (([] : List Int), 2)) else ((money_May.f (rd x32 x34)).bind fun t179 => (if t179 = true then (money_Split.l0 k x0 x1 (wrap64 (x6 + (rd x32 x34))) x32 x33 (wrap64 (x34 + 1))) else (some (([] : List Int), 2))))) else (none)) else (none)) else (if x6 = 0 then (some (([] : List Int), 2)) else (if x0 < 0 then (money_Split.j2 k x0 x1 x6 (-1)) else (money_Split.j2 k x0 x1 x6 1)))
def money_Split.j2 : Nat → Int → List Int → Int → Int → Option (List Int × Int)
 | 0, _, _, _, _ => none
 | k + 1, x0, x1, x6, x9 => money_Split.l1 k x0 x1 x6 x9 ([] : List Int) x0 x1 (x1.length : Int) 0
def money_Split.l1 : Nat → Int → List Int → Int → Int → List Int → Int → List Int → Int → Int → Option (List Int × Int)
 | 0, _, _, _, _, _, _, _, _, _ => none
 | k + 1, x0, x1, x6, x9, x10, x11, x54, x55, x56 => if x56 < x55 then (if 0 ≤ x56 then (if x56 < (x54.length : Int) then ((money_size_int64.f x0).bind fun t181 => ((math_bits_Mul64.f t181 (IntKind.u64.wrap (rd x54 x56))).bind fun bt182 => ((math_bits_Div64.f k bt182.1 bt182.2 (IntKind.u64.wrap (x6))).bind fun bt184 => (if x10.length < 17592186044416 then (money_Split.l1 k x0 x1 x6 x9 (x10 ++ [wrap64 (x9 * (wrap64 (bt184.1)))]) (wrap64 (x11 - (wrap64 (x9 * (wrap64 (bt184.1)))))) x54 x55 (wrap64 (x56 + 1))) else (none))))) else (none)) else (none)) else (money_Split.l2 k x1 x9 x10 x11 0)
def money_Split.l2 : Nat → List Int → Int → List Int → Int → Int → Option (List Int × Int)
 | 0, _, _, _, _, _ => none
 | k + 1, x1, x9, x10, x11, x18 => if x11 = 0 then (some (x10, 0)) else (if 0 ≤ x18 then (if x18 < (x1.length : Int) then (if (rd x1 x18) > 0 then (if x18 < (x10.length : Int) then (if (x10.length : Int) = 0 then (none) else (money_Split.l2 k x1 x9 (x10.set (x18 : Int).toNat (wrap64 ((rd x10 x18) + x9))) (wrap64 (x11 - x9)) (Int.tmod (wrap64 (x18 + 1)) (x10.length : Int)))) else (none)) else (if (x10.length : Int) = 0 then (none) else (money_Split.l2 k x1 x9 x10 x11 (Int.tmod (wrap64 (x18 + 1)) (x10.length : Int))))) else (none)) else (none))
end
def money_Split.f (k : Nat) (a0 : Int) (l1 : List Int) : Option (List Int × Int) := if (l1.length : Int) = 0 then (money_Split.j0 k a0 l1 true) else (if (l1.length : Int) > 600 then (money_Split.j0 k a0 l1 true) else ((money_May.f a0).bind fun t177 => (money_Split.j0 k a0 l1 (!t177))))
set_option maxHeartbeats 8000000 in
set_option maxRecDepth 100000 in
theorem money_Split.calls (k : Nat) (a0 : Int) (A1 : Option Addr) (c1 : Nat) (l1 : List Int) (r1 : List Int) (r2 : Int) (w : World) (hr1 : Kd.C (Kd.int .i64) w A1 l1.length l1) (hc1 : l1.length ≤ c1) (h : money_Split.f k a0 l1 = some (r1, r2)) :
  Calls Try.prog 21 #[.int .i64 a0, .slice A1 l1.length c1] w fun e w' => ∃ v0_ : Value, e = .returned (.tuple #[v0_, .int .i64 r2]) ∧ Kd.R (Kd.int .i64) 2 w' w.heap.size (fun _ => True) v0_ r1 ∧ Below w.heap.size w w' := by
 have HR1 := Aside0.mk hr1
 have HC1 := Aside0.mk hc1
 clear hr1 hc1
 have HB := Aside0.mk (Below.refl w.heap.size w)
 have H : (if (l1.length : Int) = 0 then (money_Split.j0 k a0 l1 true) else (if (l1.length : Int) > 600 then (money_Split.j0 k a0 l1 true) else ((money_May.f a0).bind fun t177 => (money_Split.j0 k a0 l1 (!t177))))) = some (r1, r2) := h
 clear h
 have HC3 := Aside0.mk H
 clear H
 go_enter Try.func21, Try.ntmps21
 go_upto_region 1 with (fail)
 go_cut [31] (fun v31 wc => ∃ (kq : Nat) (x31_2 : Bool), v31 = .bool x31_2 ∧ Aside0 (money_Split.j0 kq a0 l1 x31_2 = some (r1, r2)) ∧ Aside0 (kq ≤ k) ∧ Aside0 (Below w.heap.size w wc))
 case first =>
  have H := HC3.out
  clear HC3
  by_cases c4 : (l1.length : Int) = 0
  ·rw [if_pos c4] at H
   have c4b0 : ((l1.length : Int) == 0) = true := beq_iff_eq.mpr c4
   have c4b1 : ((l1.length : Int) != 0) = false := bne_eq_false_iff_eq.mpr c4
   clear c4
   (first | rw [c4b0] | (simp only [i64_w, i32_w]; rw [c4b0]) | skip)
   have H' := Aside0.mk H
   clear H
   go_wp2
   go_meet
   case rel => exact ⟨_, (true), (by first | rfl | (simp; done) | (simp [*]; done)), H', ⟨by first | omega | exact Nat.le_refl _⟩, ⟨by repeat (first | (with_reducible first | exact HB.out | apply below_alloc | apply pw_below_drewN | apply below_drew1) | exact HB.out)⟩⟩
  ·rw [if_neg c4] at H
   have c4b0 : ((l1.length : Int) == 0) = false := beq_eq_false_iff_ne.mpr c4
   have c4b1 : ((l1.length : Int) != 0) = true := bne_iff_ne.mpr c4
   have c4b2 : ¬ (l1 = []) := fun h_ => c4 (by rw [h_]; rfl)
   (first | rw [c4b0] | (simp only [i64_w, i32_w]; rw [c4b0]) | skip)
   by_cases c5 : (l1.length : Int) > 600
   ·rw [if_pos c5] at H
    have c5b0 : decide (600 < (l1.length : Int)) = true := decide_eq_true c5
    have c5b1 : decide (600 < l1.length) = true := decide_eq_true (by omega)
    clear c5
    have H' := Aside0.mk H
    clear H
    go_wp2
    go_meet
    case rel => exact ⟨_, (true), (by first | rfl | (simp; done) | (simp [*]; done)), H', ⟨by first | omega | exact Nat.le_refl _⟩, ⟨by repeat (first | (with_reducible first | exact HB.out | apply below_alloc | apply pw_below_drewN | apply below_drew1) | exact HB.out)⟩⟩
   ·rw [if_neg c5] at H
    have c5b0 : decide (600 < (l1.length : Int)) = false := decide_eq_false c5
    have c5b1 : decide (600 < l1.length) = false := decide_eq_false (by omega)
    clear c5
    replace H := Option.bind_eq_some_iff.mp H
    obtain ⟨t177, A60, H⟩ := H
    replace H : (money_Split.j0 k a0 l1 (!t177)) = some (r1, r2) := H
    have A6 := Aside0.mk A60
    clear A60
    have H' := Aside0.mk H
    clear H
    go_wp2_with (first | (go_at_call 41; (with_reducible refine (money_May.calls a0 t177 _ A6.out).mono ?_); rintro e w' ⟨rfl, ⟨nd, rfl⟩⟩))
    go_meet
    case rel => exact ⟨_, (!t177), (by first | rfl | (simp; done) | (simp [*]; done)), H', ⟨by first | omega | exact Nat.le_refl _⟩, ⟨by repeat (first | (with_reducible first | exact HB.out | apply below_alloc | apply pw_below_drewN | apply below_drew1) | exact HB.out)⟩⟩
 case rest =>
  clear HC3
  repeat first | clear c1 | clear c2 | clear p2 | clear c4 | clear c4b0 | clear c4b1 | clear c4b2 | clear c5 | clear c5b0 | clear c5b1
  obtain ⟨kq, x31_2, rfl, HA, HJ2, HB⟩ := hcut
  cases kq with
  | zero => exact absurd HA.out (by simp [money_Split.j0])
  | succ kj2 =>
   have H := HA.out
   clear HA
   simp only [money_Split.j0] at H
   by_cases c7 : x31_2 = true
   ·subst c7
    have H1 : (some (([] : List Int), 2)) = some (r1, r2) := by rw [if_pos rfl] at H; exact H
    clear H
    have H := H1
    clear H1
    simp only [Option.some.injEq, Prod.mk.injEq] at H
    obtain ⟨rfl, rfl⟩ := H
    go_wp2
    go_ret2
    exact ⟨_, by first | rfl | (simp [errW_none, errW_some] <;> rfl) | (simp [*, errW_none, errW_some] <;> rfl), by first | exact Kd.R_nil _ _ _ _ _ | exact Kd.N_nil _ _ _ _ _ | exact Kd.V_nil _ _ _ _ _ | exact Kd.Q_nil _ _ _ _ _ | exact Kd.S_nil _ _ _ _ _, by repeat (first | (with_reducible first | exact HB.out | apply below_alloc | apply pw_below_drewN | apply below_drew1) | exact HB.out)⟩
   ·replace c7 := Bool.eq_false_iff.mpr c7
    subst c7
    have H1 : (money_Split.l0 kj2 a0 l1 0 l1 (l1.length : Int) 0) = some (r1, r2) := by rw [if_neg (show ¬ (false = true) by decide)] at H; exact H
    clear H
    have H := H1
    clear H1
    have H' := Aside0.mk H
    clear H
    go_wp2
    go_loopg [6, 34] kj2 (fun kq v6 v34 w' => ∃ (x6_2 : Int) (x34_2 : Int), v6 = .int .i64 x6_2 ∧ v34 = .int .i64 x34_2 ∧ Aside0 (money_Split.l0 kq a0 l1 x6_2 l1 (l1.length : Int) x34_2 = some (r1, r2)) ∧ Aside0 (kq ≤ kj2) ∧ Aside0 (Below w.heap.size w w'))
    case atStart => exact ⟨(0), (0), (by first | rfl | (simp; done) | (simp [*]; done)), (by first | rfl | (simp; done) | (simp [*]; done)), H', ⟨Nat.le_refl _⟩, ⟨by repeat (first | (with_reducible first | exact HB.out | apply below_alloc | apply pw_below_drewN | apply below_drew1) | exact HB.out)⟩⟩
    case round =>
     clear H'
     repeat first | clear c1 | clear c2 | clear p2 | clear c4 | clear c4b0 | clear c4b1 | clear c4b2 | clear c5 | clear c5b0 | clear c5b1 | clear c7 | clear p2
     obtain ⟨x6_2, x34_2, rfl, rfl, HA, HK2, HB⟩ := hrel
     cases gk with
     | zero => exact absurd HA.out (by simp [money_Split.l0])
     | succ k2 =>
      have H := HA.out
      clear HA
      simp only [money_Split.l0] at H
      by_cases c8 : x34_2 < (l1.length : Int)
      ·rw [if_pos c8] at H
       have c8b0 : decide (x34_2 < (l1.length : Int)) = true := decide_eq_true c8
       clear c8
       by_cases c9 : 0 ≤ x34_2
       ·rw [if_pos c9] at H
        have c9b0 : decide (0 ≤ x34_2) = true := decide_eq_true c9
        clear c9
        by_cases c10 : x34_2 < (l1.length : Int)
        ·rw [if_pos c10] at H
         have c10b0 : decide (x34_2 < (l1.length : Int)) = true := decide_eq_true c10
         clear c10
         have HC11 := Aside0.mk H
         clear H
         have p178 : 0 ≤ (x34_2 : Int) := of_decide_eq_true (by first | (with_reducible assumption) | assumption)
         have q178 : x34_2 < (l1.length : Int) := of_decide_eq_true (by first | (with_reducible assumption) | assumption)
         obtain ⟨ad178, e178, hx178_0⟩ := Kd.at_int HR1.out x34_2 p178 q178
         cases e178
         try replace hx178_0 := (HB.out.cell (World.block_lt_of_cell? w _ hx178_0)).trans hx178_0
         replace p178 := eq_true p178
         replace q178 := eq_true q178
         go_upto_region 7 with (fail)
         have H := HC11.out
         clear HC11
         by_cases c12 : (rd l1 x34_2) < 0
         ·rw [if_pos c12] at H
          have c12b0 : decide ((rd l1 x34_2) < 0) = true := decide_eq_true c12
          clear c12
          simp only [Option.some.injEq, Prod.mk.injEq] at H
          obtain ⟨rfl, rfl⟩ := H
          go_wp2
          go_ret2
          exact ⟨_, by first | rfl | (simp [errW_none, errW_some] <;> rfl) | (simp [*, errW_none, errW_some] <;> rfl), by first | exact Kd.R_nil _ _ _ _ _ | exact Kd.N_nil _ _ _ _ _ | exact Kd.V_nil _ _ _ _ _ | exact Kd.Q_nil _ _ _ _ _ | exact Kd.S_nil _ _ _ _ _, by repeat (first | (with_reducible first | exact HB.out | apply below_alloc | apply pw_below_drewN | apply below_drew1) | exact HB.out)⟩
         ·rw [if_neg c12] at H
          have c12b0 : decide ((rd l1 x34_2) < 0) = false := decide_eq_false c12
          clear c12
          replace H := Option.bind_eq_some_iff.mp H
          obtain ⟨t179, A130, H⟩ := H
          replace H : (if t179 = true then (money_Split.l0 k2 a0 l1 (wrap64 (x6_2 + (rd l1 x34_2))) l1 (l1.length : Int) (wrap64 (x34_2 + 1))) else (some (([] : List Int), 2))) = some (r1, r2) := H
          have A13 := Aside0.mk A130
          clear A130
          by_cases c14 : t179 = true
          ·subst c14
           have H1 : (money_Split.l0 k2 a0 l1 (wrap64 (x6_2 + (rd l1 x34_2))) l1 (l1.length : Int) (wrap64 (x34_2 + 1))) = some (r1, r2) := by rw [if_pos rfl] at H; exact H
           clear H
           have H := H1
           clear H1
           have H' := Aside0.mk H
           clear H
           go_wp2_with (first | (go_at_call 41; (with_reducible refine (money_May.calls (rd l1 x34_2) true _ A13.out).mono ?_); rintro e w' ⟨rfl, ⟨nd, rfl⟩⟩))
           go_roundg k2
           case measure => have := HJ2.out; have := HK2.out; omega
           case rel => exact ⟨(wrap64 (x6_2 + (rd l1 x34_2))), (wrap64 (x34_2 + 1)), (by first | rfl | (simp; done) | (simp [*]; done)), (by first | rfl | (simp; done) | (simp [*]; done)), H', ⟨by have := HJ2.out; have := HK2.out; omega⟩, ⟨by repeat (first | (with_reducible first | exact HB.out | apply below_alloc | apply pw_below_drewN | apply below_drew1) | exact HB.out)⟩⟩
          ·replace c14 := Bool.eq_false_iff.mpr c14
           subst c14
           have H1 : (some (([] : List Int), 2)) = some (r1, r2) := by rw [if_neg (show ¬ (false = true) by decide)] at H; exact H
           clear H
           have H := H1
           clear H1
           simp only [Option.some.injEq, Prod.mk.injEq] at H
           obtain ⟨rfl, rfl⟩ := H
           go_wp2_with (first | (go_at_call 41; (with_reducible refine (money_May.calls (rd l1 x34_2) false _ A13.out).mono ?_); rintro e w' ⟨rfl, ⟨nd, rfl⟩⟩))
           go_ret2
           exact ⟨_, by first | rfl | (simp [errW_none, errW_some] <;> rfl) | (simp [*, errW_none, errW_some] <;> rfl), by first | exact Kd.R_nil _ _ _ _ _ | exact Kd.N_nil _ _ _ _ _ | exact Kd.V_nil _ _ _ _ _ | exact Kd.Q_nil _ _ _ _ _ | exact Kd.S_nil _ _ _ _ _, by repeat (first | (with_reducible first | exact HB.out | apply below_alloc | apply pw_below_drewN | apply below_drew1) | exact HB.out)⟩
        ·rw [if_neg c10] at H
         exact absurd H (by simp)
       ·rw [if_neg c9] at H
        exact absurd H (by simp)
      ·rw [if_neg c8] at H
       have c8b0 : decide (x34_2 < (l1.length : Int)) = false := decide_eq_false c8
       clear c8
       by_cases c15 : x6_2 = 0
       ·rw [if_pos c15] at H
        have c15b0 : (x6_2 == 0) = true := beq_iff_eq.mpr c15
        have c15b1 : (x6_2 != 0) = false := bne_eq_false_iff_eq.mpr c15
        clear c15
        simp only [Option.some.injEq, Prod.mk.injEq] at H
        obtain ⟨rfl, rfl⟩ := H
        go_wp2
        go_ret2
        exact ⟨_, by first | rfl | (simp [errW_none, errW_some] <;> rfl) | (simp [*, errW_none, errW_some] <;> rfl), by first | exact Kd.R_nil _ _ _ _ _ | exact Kd.N_nil _ _ _ _ _ | exact Kd.V_nil _ _ _ _ _ | exact Kd.Q_nil _ _ _ _ _ | exact Kd.S_nil _ _ _ _ _, by repeat (first | (with_reducible first | exact HB.out | apply below_alloc | apply pw_below_drewN | apply below_drew1) | exact HB.out)⟩
       ·rw [if_neg c15] at H
        have c15b0 : (x6_2 == 0) = false := beq_eq_false_iff_ne.mpr c15
        have c15b1 : (x6_2 != 0) = true := bne_iff_ne.mpr c15
        have HC16 := Aside0.mk H
        clear H
        go_upto_if 52 with (fail)
        go_cut [9] (fun v9 wc => ∃ (kq : Nat) (x9_15 : Int), v9 = .int .i64 x9_15 ∧ Aside0 (money_Split.j2 kq a0 l1 x6_2 x9_15 = some (r1, r2)) ∧ Aside0 (kq ≤ k2) ∧ Aside0 (Below w.heap.size w wc))
        case first =>
         have H := HC16.out
         clear HC16
         by_cases c17 : a0 < 0
         ·rw [if_pos c17] at H
          have c17b0 : decide (a0 < 0) = true := decide_eq_true c17
          clear c17
          (first | rw [c17b0] | (simp only [i64_w, i32_w]; rw [c17b0]) | skip)
          have H' := Aside0.mk H
          clear H
          go_wp2
          go_meet
          case rel => exact ⟨_, ((-1)), (by first | rfl | (simp; done) | (simp [*]; done)), H', ⟨by have := HJ2.out; have := HK2.out; first | omega | exact Nat.le_refl _⟩, ⟨by repeat (first | (with_reducible first | exact HB.out | apply below_alloc | apply pw_below_drewN | apply below_drew1) | exact HB.out)⟩⟩
         ·rw [if_neg c17] at H
          have c17b0 : decide (a0 < 0) = false := decide_eq_false c17
          clear c17
          (first | rw [c17b0] | (simp only [i64_w, i32_w]; rw [c17b0]) | skip)
          have H' := Aside0.mk H
          clear H
          go_wp2
          go_meet
          case rel => exact ⟨_, (1), (by first | rfl | (simp; done) | (simp [*]; done)), H', ⟨by have := HJ2.out; have := HK2.out; first | omega | exact Nat.le_refl _⟩, ⟨by repeat (first | (with_reducible first | exact HB.out | apply below_alloc | apply pw_below_drewN | apply below_drew1) | exact HB.out)⟩⟩
        case rest =>
         clear HC16
         repeat first | clear c1 | clear p1 | clear q1 | clear hx1 | clear c2 | clear p2 | clear c4 | clear c4b0 | clear c4b1 | clear c4b2 | clear c5 | clear c5b0 | clear c5b1 | clear p6 | clear c7 | clear c8 | clear c8b0 | clear c9 | clear c9b0 | clear c10 | clear c10b0 | clear c12 | clear c12b0 | clear c14 | clear c15 | clear c15b0 | clear c15b1 | clear c17 | clear c17b0 | clear p17 | clear q17 | clear hx17 | clear hx178_0 | clear p178 | clear p2 | clear q178
         obtain ⟨kq, x9_15, rfl, HA, HJ15, HB⟩ := hcut
         cases kq with
         | zero => exact absurd HA.out (by simp [money_Split.j2])
         | succ kj15 =>
          have H := HA.out
          clear HA
          simp only [money_Split.j2] at H
          have H' := Aside0.mk H
          clear H
          go_wp2
          go_loopg [10, 11, 56] kj15 (fun kq v10 v11 v56 w' => ∃ (x10_4 : List Int) (x11_4 : Int) (x56_4 : Int), v11 = .int .i64 x11_4 ∧ v56 = .int .i64 x56_4 ∧ Aside0 (money_Split.l1 kq a0 l1 x6_2 x9_15 x10_4 x11_4 l1 (l1.length : Int) x56_4 = some (r1, r2)) ∧ Aside0 (kq ≤ kj15) ∧ Aside0 (Kd.R (Kd.int .i64) 2 w' w.heap.size (fun _ => True) v10 x10_4) ∧ Aside0 (Below w.heap.size w w'))
          case atStart => exact ⟨(([] : List Int)), (a0), (0), (by first | rfl | (simp; done) | (simp [*]; done)), (by first | rfl | (simp; done) | (simp [*]; done)), H', ⟨Nat.le_refl _⟩, ⟨by first | exact Kd.R_nil _ _ _ _ _ | exact Kd.N_nil _ _ _ _ _ | exact Kd.V_nil _ _ _ _ _ | exact Kd.Q_nil _ _ _ _ _ | exact Kd.S_nil _ _ _ _ _⟩, ⟨by repeat (first | (with_reducible first | exact HB.out | apply below_alloc | apply pw_below_drewN | apply below_drew1) | exact HB.out)⟩⟩
          case round =>
           clear H'
           repeat first | clear c1 | clear p1 | clear q1 | clear hx1 | clear c2 | clear p2 | clear c4 | clear c4b0 | clear c4b1 | clear c4b2 | clear c5 | clear c5b0 | clear c5b1 | clear p6 | clear c7 | clear c8 | clear c8b0 | clear c9 | clear c9b0 | clear c10 | clear c10b0 | clear c12 | clear c12b0 | clear c14 | clear c15 | clear c15b0 | clear c15b1 | clear c17 | clear c17b0 | clear p17 | clear q17 | clear hx17 | clear hx178_0 | clear p1 | clear p17 | clear p178 | clear p2 | clear p6 | clear q1 | clear q17 | clear q178
           obtain ⟨x10_4, x11_4, x56_4, rfl, rfl, HA, HK4, HO_10, HB⟩ := hrel
           cases gk with
           | zero => exact absurd HA.out (by simp [money_Split.l1])
           | succ k4 =>
            have H := HA.out
            clear HA
            simp only [money_Split.l1] at H
            by_cases c18 : x56_4 < (l1.length : Int)
            ·rw [if_pos c18] at H
             have c18b0 : decide (x56_4 < (l1.length : Int)) = true := decide_eq_true c18
             clear c18
             by_cases c19 : 0 ≤ x56_4
             ·rw [if_pos c19] at H
              have c19b0 : decide (0 ≤ x56_4) = true := decide_eq_true c19
              clear c19
              by_cases c20 : x56_4 < (l1.length : Int)
              ·rw [if_pos c20] at H
               have c20b0 : decide (x56_4 < (l1.length : Int)) = true := decide_eq_true c20
               clear c20
               replace H := Option.bind_eq_some_iff.mp H
               obtain ⟨t181, A210, H⟩ := H
               replace H : ((math_bits_Mul64.f t181 (IntKind.u64.wrap (rd l1 x56_4))).bind fun bt182 => ((math_bits_Div64.f k4 bt182.1 bt182.2 (IntKind.u64.wrap (x6_2))).bind fun bt184 => (if x10_4.length < 17592186044416 then (money_Split.l1 k4 a0 l1 x6_2 x9_15 (x10_4 ++ [wrap64 (x9_15 * (wrap64 (bt184.1)))]) (wrap64 (x11_4 - (wrap64 (x9_15 * (wrap64 (bt184.1)))))) l1 (l1.length : Int) (wrap64 (x56_4 + 1))) else (none)))) = some (r1, r2) := H
               have A21 := Aside0.mk A210
               clear A210
               replace H := Option.bind_eq_some_iff.mp H
               obtain ⟨⟨t182, t183⟩, A220, H⟩ := H
               replace H : ((math_bits_Div64.f k4 t182 t183 (IntKind.u64.wrap (x6_2))).bind fun bt184 => (if x10_4.length < 17592186044416 then (money_Split.l1 k4 a0 l1 x6_2 x9_15 (x10_4 ++ [wrap64 (x9_15 * (wrap64 (bt184.1)))]) (wrap64 (x11_4 - (wrap64 (x9_15 * (wrap64 (bt184.1)))))) l1 (l1.length : Int) (wrap64 (x56_4 + 1))) else (none))) = some (r1, r2) := H
               have A22 := Aside0.mk A220
               clear A220
               replace H := Option.bind_eq_some_iff.mp H
               obtain ⟨⟨t184, t185⟩, A230, H⟩ := H
               replace H : (if x10_4.length < 17592186044416 then (money_Split.l1 k4 a0 l1 x6_2 x9_15 (x10_4 ++ [wrap64 (x9_15 * (wrap64 (t184)))]) (wrap64 (x11_4 - (wrap64 (x9_15 * (wrap64 (t184)))))) l1 (l1.length : Int) (wrap64 (x56_4 + 1))) else (none)) = some (r1, r2) := H
               have A23 := Aside0.mk A230
               clear A230
               by_cases c24 : x10_4.length < 17592186044416
               ·rw [if_pos c24] at H
                have LMc24 := Aside0.mk c24
                clear c24
                obtain ⟨y186, hy186⟩ : ∃ y_ : List Int, y_ = (x10_4 ++ [wrap64 (x9_15 * (wrap64 (t184)))]) := ⟨_, rfl⟩
                replace H : (money_Split.l1 k4 a0 l1 x6_2 x9_15 y186 (wrap64 (x11_4 - (wrap64 (x9_15 * (wrap64 (t184)))))) l1 (l1.length : Int) (wrap64 (x56_4 + 1))) = some (r1, r2) := by first | (rw [hy186]; with_reducible exact H) | (have H2_ := (Option.bind_some _ _).symm.trans H; rw [hy186]; with_reducible exact H2_) | (have H2_ := (Option.bind_some _ _).symm.trans H; with_reducible exact H2_) | with_reducible exact H | (rw [hy186]; exact H) | exact H
                have Ny186 := Aside0.mk hy186
                clear hy186
                have H' := Aside0.mk H
                clear H
                have p180 : 0 ≤ (x56_4 : Int) := of_decide_eq_true (by first | (with_reducible assumption) | assumption)
                have q180 : x56_4 < (l1.length : Int) := of_decide_eq_true (by first | (with_reducible assumption) | assumption)
                obtain ⟨ad180, e180, hx180_0⟩ := Kd.at_int HR1.out x56_4 p180 q180
                cases e180
                try replace hx180_0 := (HB.out.cell (World.block_lt_of_cell? w _ hx180_0)).trans hx180_0
                replace p180 := eq_true p180
                replace q180 := eq_true q180
                go_wp2_with (first | ((with_reducible refine gate_callee (f := 43) rfl ?_); refine goesL_ (some 62) rfl rfl Try.func43 (by kernel_rfl) rfl #[.int .i64 a0] rfl (by (try simp only [List.map_toArray, List.map_cons, List.map_nil]); first | done | rfl | (simp only [List.length_drop, List.length_take]; rfl)) ?_; (with_reducible refine (money_size_int64.calls a0 t181 _ A21.out).mono ?_); rintro e w' ⟨rfl, ⟨nd, rfl⟩⟩; refine ⟨_, rfl, ?_⟩) | ((with_reducible refine gate_callee (f := 42) rfl ?_); refine goesL_ (some 65) rfl rfl Try.func42 (by kernel_rfl) rfl #[.int .u64 t181, .int .u64 (IntKind.u64.wrap (rd l1 x56_4))] rfl (by (try simp only [List.map_toArray, List.map_cons, List.map_nil]); first | done | rfl | (simp only [List.length_drop, List.length_take]; rfl)) ?_; (with_reducible refine (math_bits_Mul64.calls t181 (IntKind.u64.wrap (rd l1 x56_4)) t182 t183 _ A22.out).mono ?_); rintro e w' ⟨rfl, ⟨nd, rfl⟩⟩; refine ⟨_, rfl, ?_⟩) | ((with_reducible refine gate_callee (f := 44) rfl ?_); refine goesL_ (some 73) rfl rfl Try.func44 (by kernel_rfl) rfl #[.int .u64 t182, .int .u64 t183, .int .u64 (IntKind.u64.wrap (x6_2))] rfl (by (try simp only [List.map_toArray, List.map_cons, List.map_nil]); first | done | rfl | (simp only [List.length_drop, List.length_take]; rfl)) ?_; (with_reducible refine (math_bits_Div64.calls k4 t182 t183 (IntKind.u64.wrap (x6_2)) t184 t185 _ A23.out).mono ?_); rintro e w' ⟨rfl, ⟨nd, rfl⟩⟩; refine ⟨_, rfl, ?_⟩) | ((with_reducible refine gate_builtin (b := .append) (xs := #[.tmp 76, .tmp 81]) rfl ?_); (try (refine gate_guard (by rfl) ?_; dsimp only)); at_builtin; refine Kd.R_append (Kd.int .i64) (w0 := w) w.heap.size rfl (.tmp 76) (.tmp 81) 22 2 (.int .i64 0) 8 rfl Try.underlying22 info2 rfl (by decide) (by omega) u10 x10_4 (wrap64 (x9_15 * (wrap64 (t184)))) [.int .i64 (wrap64 (x9_15 * (wrap64 (t184))))] (fun _ => True) (fun _ => False) rfl rfl ?aP (fun _ hk => hk.elim) ?aF ?aO ?aB ?aS ?aL ?_; (case aP => exact rfl); (case aB => exact (by repeat (first | (with_reducible first | exact HB.out | apply below_alloc | apply pw_below_drewN | apply below_drew1) | exact HB.out))); (case aF => exact (fun _ _ => trivial)); (case aO => exact (by (with_reducible repeat (first | apply Kd.R_alloc | apply Kd.R_drewN | apply Kd.R_drew)); exact HO_10.out)); (case aS => exact (below_size (by repeat (first | (with_reducible first | exact HB.out | apply below_alloc | apply pw_below_drewN | apply below_drew1) | exact HB.out)))); (case aL => have := LMc24.out; omega); intro v187 w25 ho hb hg hat; rw [← Ny186.out] at ho; have n0_ := Aside0.mk (hb); have n1_ := Aside0.mk (ho); clear HB; clear HO_10; have HB := n0_; have HO188 := n1_; clear n0_ n1_; clear ho hb hg hat))
                go_roundg k4
                case measure => have := HJ2.out; have := HK2.out; have := HJ15.out; have := HK4.out; omega
                case rel => exact ⟨(y186), (wrap64 (x11_4 - (wrap64 (x9_15 * (wrap64 (t184)))))), (wrap64 (x56_4 + 1)), (by first | rfl | (simp; done) | (simp [*]; done)), (by first | rfl | (simp; done) | (simp [*]; done)), H', ⟨by have := HJ2.out; have := HK2.out; have := HJ15.out; have := HK4.out; omega⟩, ⟨by (with_reducible repeat (first | apply Kd.R_alloc | apply Kd.R_drewN | apply Kd.R_drew)); exact HO188.out⟩, ⟨by repeat (first | (with_reducible first | exact HB.out | apply below_alloc | apply pw_below_drewN | apply below_drew1) | exact HB.out)⟩⟩
               ·rw [if_neg c24] at H
                exact absurd H (by simp)
              ·rw [if_neg c20] at H
               exact absurd H (by simp)
             ·rw [if_neg c19] at H
              exact absurd H (by simp)
            ·rw [if_neg c18] at H
             have c18b0 : decide (x56_4 < (l1.length : Int)) = false := decide_eq_false c18
             clear c18
             have H' := Aside0.mk H
             clear H
             go_wp2
             go_loopg [11, 18] k4 (fun kq v11 v18 w' => ∃ (x10_5 : List Int) (x11_5 : Int) (x18_5 : Int), v11 = .int .i64 x11_5 ∧ v18 = .int .i64 x18_5 ∧ Aside0 (money_Split.l2 kq l1 x9_15 x10_5 x11_5 x18_5 = some (r1, r2)) ∧ Aside0 (kq ≤ k4) ∧ Aside0 (Kd.R (Kd.int .i64) 2 w' w.heap.size (fun _ => True) u10 x10_5) ∧ Aside0 (Below w.heap.size w w'))
             case atStart => exact ⟨(x10_4), (x11_4), (0), (by first | rfl | (simp; done) | (simp [*]; done)), (by first | rfl | (simp; done) | (simp [*]; done)), H', ⟨Nat.le_refl _⟩, ⟨by (with_reducible repeat (first | apply Kd.R_alloc | apply Kd.R_drewN | apply Kd.R_drew)); exact HO_10.out⟩, ⟨by repeat (first | (with_reducible first | exact HB.out | apply below_alloc | apply pw_below_drewN | apply below_drew1) | exact HB.out)⟩⟩
             case round =>
              clear H'
              repeat first | clear c1 | clear p1 | clear q1 | clear hx1 | clear c2 | clear p2 | clear c4 | clear c4b0 | clear c4b1 | clear c4b2 | clear c5 | clear c5b0 | clear c5b1 | clear p6 | clear c7 | clear c8 | clear c8b0 | clear c9 | clear c9b0 | clear c10 | clear c10b0 | clear c12 | clear c12b0 | clear c14 | clear c15 | clear c15b0 | clear c15b1 | clear c17 | clear c17b0 | clear p17 | clear q17 | clear hx17 | clear c18 | clear c18b0 | clear p18 | clear q18 | clear hx18 | clear c19 | clear c19b0 | clear c20 | clear c20b0 | clear c21 | clear c24 | clear hx178_0 | clear hx180_0 | clear p1 | clear p17 | clear p178 | clear p180 | clear p2 | clear p6 | clear q1 | clear q17 | clear q178 | clear q180
              obtain ⟨x10_5, x11_5, x18_5, rfl, rfl, HA, HK5, HO_10, HB⟩ := hrel
              cases gk with
              | zero => exact absurd HA.out (by simp [money_Split.l2])
              | succ k5 =>
               have H := HA.out
               clear HA
               simp only [money_Split.l2] at H
               by_cases c26 : x11_5 = 0
               ·rw [if_pos c26] at H
                have c26b0 : (x11_5 == 0) = true := beq_iff_eq.mpr c26
                have c26b1 : (x11_5 != 0) = false := bne_eq_false_iff_eq.mpr c26
                clear c26
                simp only [Option.some.injEq, Prod.mk.injEq] at H
                obtain ⟨rfl, rfl⟩ := H
                go_wp2
                go_ret2
                exact ⟨_, by first | rfl | (simp [errW_none, errW_some] <;> rfl) | (simp [*, errW_none, errW_some] <;> rfl), by (with_reducible repeat (first | apply Kd.R_alloc | apply Kd.R_drewN | apply Kd.R_drew)); exact HO_10.out, by repeat (first | (with_reducible first | exact HB.out | apply below_alloc | apply pw_below_drewN | apply below_drew1) | exact HB.out)⟩
               ·rw [if_neg c26] at H
                have c26b0 : (x11_5 == 0) = false := beq_eq_false_iff_ne.mpr c26
                have c26b1 : (x11_5 != 0) = true := bne_iff_ne.mpr c26
                by_cases c27 : 0 ≤ x18_5
                ·rw [if_pos c27] at H
                 have c27b0 : decide (0 ≤ x18_5) = true := decide_eq_true c27
                 clear c27
                 by_cases c28 : x18_5 < (l1.length : Int)
                 ·rw [if_pos c28] at H
                  have c28b0 : decide (x18_5 < (l1.length : Int)) = true := decide_eq_true c28
                  clear c28
                  by_cases c29 : (rd l1 x18_5) > 0
                  ·rw [if_pos c29] at H
                   have c29b0 : decide (0 < (rd l1 x18_5)) = true := decide_eq_true c29
                   clear c29
                   by_cases c30 : x18_5 < (x10_5.length : Int)
                   ·rw [if_pos c30] at H
                    have c30b0 : decide (x18_5 < (x10_5.length : Int)) = true := decide_eq_true c30
                    clear c30
                    obtain ⟨y191, hy191⟩ : ∃ y_ : List Int, y_ = (x10_5.set (x18_5 : Int).toNat (wrap64 ((rd x10_5 x18_5) + x9_15))) := ⟨_, rfl⟩
                    replace H : (if (x10_5.length : Int) = 0 then (none) else (money_Split.l2 k5 l1 x9_15 y191 (wrap64 (x11_5 - x9_15)) (Int.tmod (wrap64 (x18_5 + 1)) (x10_5.length : Int)))) = some (r1, r2) := by first | (rw [hy191]; with_reducible exact H) | (have H2_ := (Option.bind_some _ _).symm.trans H; rw [hy191]; with_reducible exact H2_) | (have H2_ := (Option.bind_some _ _).symm.trans H; with_reducible exact H2_) | with_reducible exact H | (rw [hy191]; exact H) | exact H
                    have Ny191 := Aside0.mk hy191
                    clear hy191
                    by_cases c32 : (x10_5.length : Int) = 0
                    ·rw [if_pos c32] at H
                     exact absurd H (by simp)
                    ·rw [if_neg c32] at H
                     have c32b0 : ((x10_5.length : Int) == 0) = false := beq_eq_false_iff_ne.mpr c32
                     have c32b1 : ((x10_5.length : Int) != 0) = true := bne_iff_ne.mpr c32
                     have c32b2 : ¬ (x10_5 = []) := fun h_ => c32 (by rw [h_]; rfl)
                     have H' := Aside0.mk H
                     clear H
                     have p189 : 0 ≤ (x18_5 : Int) := of_decide_eq_true (by first | (with_reducible assumption) | assumption)
                     have q189 : x18_5 < (l1.length : Int) := of_decide_eq_true (by first | (with_reducible assumption) | assumption)
                     obtain ⟨ad189, e189, hx189_0⟩ := Kd.at_int HR1.out x18_5 p189 q189
                     cases e189
                     try replace hx189_0 := (HB.out.cell (World.block_lt_of_cell? w _ hx189_0)).trans hx189_0
                     replace p189 := eq_true p189
                     replace q189 := eq_true q189
                     obtain ⟨Ao33, co33, eo33⟩ := Kd.R_slice HO_10.out
                     subst eo33
                     have p190 : 0 ≤ (x18_5 : Int) := of_decide_eq_true (by first | (with_reducible assumption) | assumption)
                     have q190 : x18_5 < (x10_5.length : Int) := of_decide_eq_true (by first | (with_reducible assumption) | assumption)
                     obtain ⟨ad190, e190, hx190_0⟩ := Kd.at_int (Kd.R_reads' HO_10.out).2.2 x18_5 p190 q190
                     cases e190
                     replace p190 := eq_true p190
                     replace q190 := eq_true q190
                     have p31 : 0 ≤ (x18_5 : Int) := of_decide_eq_true (by first | (with_reducible assumption) | assumption)
                     have q31 : (x18_5 : Int) < ((x10_5.length : Int) : Int) := of_decide_eq_true (by first | (with_reducible assumption) | assumption)
                     obtain ⟨go31, co31, eo31, gb31, gl31, cl31, HG31⟩ := Kd.R_form HO_10.out (by omega)
                     (first | cases eo31 | (injection eo31 with ea_ en_ ec_; (first | subst ea_ | (injection ea_ with ea_; subst ea_)); subst ec_; clear en_))
                     have GB31 := Aside0.mk gb31
                     have GG31 := Aside0.mk HG31
                     clear gb31 gl31 HG31
                     (first | simp only [add_plain] at hx190_0 | skip)
                     obtain ⟨hx31_0, hf31_0⟩ := Kd.R_celln 0 HO_10.out (x18_5 : Int) p31 q31
                     replace p31 := eq_true p31
                     replace q31 := eq_true q31
                     have HP34 := Kd.R_putg HO_10.out (x18_5 : Int) (wrap64 ((rd x10_5 x18_5) + x9_15))
                     go_wp2_with (first | ((with_reducible refine gate_store (t := 2) (p := 108) rfl ?_); refine store_event (t := 2) (p := 108) (v := ?vo_w35) (w1 := (wr.setCell ⟨go31, (x18_5 : Int).toNat, none⟩ (.int .i64 (wrap64 ((rd x10_5 x18_5) + x9_15))))) ?hg ?ho ?hn ?hr ?_; (case ho => rfl); (case hg => rfl); (case hn => rfl); (case hr => first | (go_simp; done) | (go_simp; rfl)); intro w35 hw; have hg : wr.grownBy w35 (some go31) := (by rw [hw]; exact HP34.2); have hp_ : Kd.R (Kd.int .i64) 2 w35 w.heap.size (fun _ => True) (.slice (some ⟨go31, 0, none⟩) x10_5.length co33) y191 := (by rw [hw, Ny191.out]; exact HP34.1); clear HP34; have n0_ := Aside0.mk (hp_); have n1_ := Aside0.mk ((by rw [hw]; exact below_set (HB.out) GB31.out : Below w.heap.size w w35)); clear HO_10; clear HB; have HO_10 := n0_; have HB := n1_; clear n0_ n1_; clear hg hw hp_))
                     go_roundg k5
                     case measure => have := HJ2.out; have := HK2.out; have := HJ15.out; have := HK4.out; have := HK5.out; omega
                     case rel => exact ⟨(y191), (wrap64 (x11_5 - x9_15)), (Int.tmod (wrap64 (x18_5 + 1)) (x10_5.length : Int)), (by first | rfl | (simp; done) | (simp [*]; done)), (by first | rfl | (simp; done) | (simp [*]; done)), H', ⟨by have := HJ2.out; have := HK2.out; have := HJ15.out; have := HK4.out; have := HK5.out; omega⟩, ⟨by (with_reducible repeat (first | apply Kd.R_alloc | apply Kd.R_drewN | apply Kd.R_drew)); exact HO_10.out⟩, ⟨by repeat (first | (with_reducible first | exact HB.out | apply below_alloc | apply pw_below_drewN | apply below_drew1) | exact HB.out)⟩⟩
                   ·rw [if_neg c30] at H
                    exact absurd H (by simp)
                  ·rw [if_neg c29] at H
                   have c29b0 : decide (0 < (rd l1 x18_5)) = false := decide_eq_false c29
                   clear c29
                   by_cases c36 : (x10_5.length : Int) = 0
                   ·rw [if_pos c36] at H
                    exact absurd H (by simp)
                   ·rw [if_neg c36] at H
                    have c36b0 : ((x10_5.length : Int) == 0) = false := beq_eq_false_iff_ne.mpr c36
                    have c36b1 : ((x10_5.length : Int) != 0) = true := bne_iff_ne.mpr c36
                    have c36b2 : ¬ (x10_5 = []) := fun h_ => c36 (by rw [h_]; rfl)
                    have H' := Aside0.mk H
                    clear H
                    have p189 : 0 ≤ (x18_5 : Int) := of_decide_eq_true (by first | (with_reducible assumption) | assumption)
                    have q189 : x18_5 < (l1.length : Int) := of_decide_eq_true (by first | (with_reducible assumption) | assumption)
                    obtain ⟨ad189, e189, hx189_0⟩ := Kd.at_int HR1.out x18_5 p189 q189
                    cases e189
                    try replace hx189_0 := (HB.out.cell (World.block_lt_of_cell? w _ hx189_0)).trans hx189_0
                    replace p189 := eq_true p189
                    replace q189 := eq_true q189
                    obtain ⟨Ao37, co37, eo37⟩ := Kd.R_slice HO_10.out
                    subst eo37
                    go_wp2
                    go_roundg k5
                    case measure => have := HJ2.out; have := HK2.out; have := HJ15.out; have := HK4.out; have := HK5.out; omega
                    case rel => exact ⟨(x10_5), (x11_5), (Int.tmod (wrap64 (x18_5 + 1)) (x10_5.length : Int)), (by first | rfl | (simp; done) | (simp [*]; done)), (by first | rfl | (simp; done) | (simp [*]; done)), H', ⟨by have := HJ2.out; have := HK2.out; have := HJ15.out; have := HK4.out; have := HK5.out; omega⟩, ⟨by (with_reducible repeat (first | apply Kd.R_alloc | apply Kd.R_drewN | apply Kd.R_drew)); exact HO_10.out⟩, ⟨by repeat (first | (with_reducible first | exact HB.out | apply below_alloc | apply pw_below_drewN | apply below_drew1) | exact HB.out)⟩⟩
                 ·rw [if_neg c28] at H
                  exact absurd H (by simp)
                ·rw [if_neg c27] at H
                 exact absurd H (by simp)

end Go.Proofs.Ytchpeobenlnemaa.S
end

section
namespace Go.Proofs.Ytchpeobenlnemaa.S
open Go.RowKit Go.Proofs.YtchpeobenlnemaaW.PrintWords Go.Proofs.YtchpeobenlnemaaW.PrintLast Go.Proofs.YtchpeobenlnemaaW.PrintMore
attribute [local go_sem] max2_int min2_int max_two min_two max_three min_three max_four min_four   -- for this text's walks alone
attribute [local go_sem] Go.Proofs.Ytchpeobenlnemaa.XWalk.cell2
set_option linter.unusedVariables false
set_option linter.unusedSimpArgs false

/-! ### lombardref08_rate: function 29 -/
def lombardref08_rate.f (a0_0 : Int) (a0_1 : Int) (l0_2 : List Int) (a0_3 : Int) (a1 : Int) : Option (Int) := if a1 < (l0_2.length : Int) then (if 0 ≤ a1 then (some (rd l0_2 a1)) else (none)) else (if 0 ≤ (wrap64 ((l0_2.length : Int) - 1)) then (if (wrap64 ((l0_2.length : Int) - 1)) < (l0_2.length : Int) then (some (rd l0_2 (wrap64 ((l0_2.length : Int) - 1)))) else (none)) else (none))
set_option maxHeartbeats 8000000 in
set_option maxRecDepth 100000 in
theorem lombardref08_rate.calls (a0_0 : Int) (a0_1 : Int) (A0_2 : Option Addr) (c0_2 : Nat) (l0_2 : List Int) (a0_3 : Int) (a1 : Int) (r : Int) (w : World) (hr0_2 : Kd.C (Kd.int .i64) w A0_2 l0_2.length l0_2) (hc0_2 : l0_2.length ≤ c0_2) (h : lombardref08_rate.f a0_0 a0_1 l0_2 a0_3 a1 = some r) :
  Calls Try.prog 29 #[.agg #[.int .i64 a0_0, .int .i64 a0_1, .slice A0_2 l0_2.length c0_2, .int .i64 a0_3], .int .i64 a1] w fun e w' => e = .returned (.int .i64 r) ∧ Below w.heap.size w w' := by
 have hu24 := Try.underlying24
 have HR0_2 := Aside0.mk hr0_2
 have HC0_2 := Aside0.mk hc0_2
 clear hr0_2 hc0_2
 have HB := Aside0.mk (Below.refl w.heap.size w)
 have H : (if a1 < (l0_2.length : Int) then (if 0 ≤ a1 then (some (rd l0_2 a1)) else (none)) else (if 0 ≤ (wrap64 ((l0_2.length : Int) - 1)) then (if (wrap64 ((l0_2.length : Int) - 1)) < (l0_2.length : Int) then (some (rd l0_2 (wrap64 ((l0_2.length : Int) - 1)))) else (none)) else (none))) = some r := h
 clear h
 by_cases c3 : a1 < (l0_2.length : Int)
 ·rw [if_pos c3] at H
  have c3b0 : decide (a1 < (l0_2.length : Int)) = true := decide_eq_true c3
  clear c3
  by_cases c4 : 0 ≤ a1
  ·rw [if_pos c4] at H
   have c4b0 : decide (0 ≤ a1) = true := decide_eq_true c4
   clear c4
   obtain rfl := Option.some.inj H
   go_enter Try.func29, Try.ntmps29
   go_wp2_with (first | ((with_reducible refine gate_dst (N := 2) rfl ?_); refine box_event ?hg (N := 2) ?hd (cs := #[.int .i64 a0_0, .int .i64 a0_1, .slice A0_2 l0_2.length c0_2, .int .i64 a0_3]) (t := 24) ?hr ?_; (case hd => rfl); (case hg => rfl); (case hr => first | (go_simp; done) | (go_simp; rfl)); intro gb232 hg w5 hbox hb; have n0_ := Aside0.mk (below_step (by repeat (first | (with_reducible first | exact HB.out | apply below_alloc | apply pw_below_drewN | apply below_drew1) | exact HB.out)) hb); have n1_ := Aside0.mk (hbox); have n2_ := Aside0.mk ((by rw [hg]; exact (below_size (by repeat (first | (with_reducible first | exact HB.out | apply below_alloc | apply pw_below_drewN | apply below_drew1) | exact HB.out))) : w.heap.size ≤ gb232)); have n3_ := Aside0.mk ((by rw [hg]; exact (below_size (by repeat (first | (with_reducible first | exact HB.out | apply below_alloc | apply pw_below_drewN | apply below_drew1) | exact HB.out))) : w.heap.size ≤ gb232)); clear HB; have HB := n0_; have BK232 := n1_; have GW232 := n2_; have GE232 := n3_; clear n0_ n1_ n2_ n3_; clear hb hbox hg; have hcz6_0 := (blk_cell BK232.out 0).trans rfl; have hcz6_1 := (blk_cell BK232.out 1).trans rfl; have hcz6_2 := (blk_cell BK232.out 2).trans rfl; have hcz6_3 := (blk_cell BK232.out 3).trans rfl; have hfz6_0 := blk_frozen BK232.out 0; have hfz6_1 := blk_frozen BK232.out 1; have hfz6_2 := blk_frozen BK232.out 2; have hfz6_3 := blk_frozen BK232.out 3; have p233 : 0 ≤ (a1 : Int) := of_decide_eq_true (by first | (with_reducible assumption) | assumption); have q233 : a1 < (l0_2.length : Int) := of_decide_eq_true (by first | (with_reducible assumption) | assumption); obtain ⟨ad233, e233, hx233_0⟩ := Kd.at_int HR0_2.out a1 p233 q233; cases e233; try replace hx233_0 := (HB.out.cell (World.block_lt_of_cell? w _ hx233_0)).trans hx233_0; replace p233 := eq_true p233; replace q233 := eq_true q233))
   go_ret
   exact ⟨by first | rfl | (simp [errW_none, errW_some] <;> rfl) | (simp [*, errW_none, errW_some] <;> rfl), by repeat (first | (with_reducible first | exact HB.out | apply below_alloc | apply pw_below_drewN | apply below_drew1 | refine below_set ?_ GE232.out) | exact HB.out)⟩
  ·rw [if_neg c4] at H
   exact absurd H (by simp)
 ·rw [if_neg c3] at H
  have c3b0 : decide (a1 < (l0_2.length : Int)) = false := decide_eq_false c3
  clear c3
  obtain ⟨ji7, hji7⟩ : ∃ j_ : Int, (wrap64 ((l0_2.length : Int) - 1)) = j_ := ⟨_, rfl⟩
  replace H : (if 0 ≤ (ji7) then (if (ji7) < (l0_2.length : Int) then (some (rd l0_2 (ji7))) else (none)) else (none)) = some r := by first | (rw [hji7] at H; exact H) | (simp only [hji7] at H ⊢; exact H)
  have hji7w : (IntKind.i64.wrap ((l0_2.length : Int) - 1)) = ji7 := (i64_w _).trans hji7
  by_cases c8 : 0 ≤ (ji7)
  ·rw [if_pos c8] at H
   have c8b0 : decide (0 ≤ (ji7)) = true := decide_eq_true c8
   clear c8
   by_cases c9 : (ji7) < (l0_2.length : Int)
   ·rw [if_pos c9] at H
    have c9b0 : decide ((ji7) < (l0_2.length : Int)) = true := decide_eq_true c9
    clear c9
    obtain rfl := Option.some.inj H
    go_enter Try.func29, Try.ntmps29
    go_wp2_with (first | ((with_reducible refine gate_dst (N := 2) rfl ?_); refine box_event ?hg (N := 2) ?hd (cs := #[.int .i64 a0_0, .int .i64 a0_1, .slice A0_2 l0_2.length c0_2, .int .i64 a0_3]) (t := 24) ?hr ?_; (case hd => rfl); (case hg => rfl); (case hr => first | (go_simp; done) | (go_simp; rfl)); intro gb232 hg w10 hbox hb; have n0_ := Aside0.mk (below_step (by repeat (first | (with_reducible first | exact HB.out | apply below_alloc | apply pw_below_drewN | apply below_drew1) | exact HB.out)) hb); have n1_ := Aside0.mk (hbox); have n2_ := Aside0.mk ((by rw [hg]; exact (below_size (by repeat (first | (with_reducible first | exact HB.out | apply below_alloc | apply pw_below_drewN | apply below_drew1) | exact HB.out))) : w.heap.size ≤ gb232)); have n3_ := Aside0.mk ((by rw [hg]; exact (below_size (by repeat (first | (with_reducible first | exact HB.out | apply below_alloc | apply pw_below_drewN | apply below_drew1) | exact HB.out))) : w.heap.size ≤ gb232)); clear HB; have HB := n0_; have BK232 := n1_; have GW232 := n2_; have GE232 := n3_; clear n0_ n1_ n2_ n3_; clear hb hbox hg; have hcz11_0 := (blk_cell BK232.out 0).trans rfl; have hcz11_1 := (blk_cell BK232.out 1).trans rfl; have hcz11_2 := (blk_cell BK232.out 2).trans rfl; have hcz11_3 := (blk_cell BK232.out 3).trans rfl; have hfz11_0 := blk_frozen BK232.out 0; have hfz11_1 := blk_frozen BK232.out 1; have hfz11_2 := blk_frozen BK232.out 2; have hfz11_3 := blk_frozen BK232.out 3; have p234 : 0 ≤ ((ji7) : Int) := of_decide_eq_true (by first | (with_reducible assumption) | assumption); have q234 : (ji7) < (l0_2.length : Int) := of_decide_eq_true (by first | (with_reducible assumption) | assumption); obtain ⟨ad234, e234, hx234_0⟩ := Kd.at_int HR0_2.out (ji7) p234 q234; cases e234; try replace hx234_0 := (HB.out.cell (World.block_lt_of_cell? w _ hx234_0)).trans hx234_0; replace p234 := eq_true p234; replace q234 := eq_true q234))
    go_ret
    exact ⟨by first | rfl | (simp [errW_none, errW_some] <;> rfl) | (simp only [← hji7]; first | rfl | (simp [errW_none, errW_some] <;> rfl)) | (simp [*, errW_none, errW_some] <;> rfl), by repeat (first | (with_reducible first | exact HB.out | apply below_alloc | apply pw_below_drewN | apply below_drew1 | refine below_set ?_ GE232.out) | exact HB.out)⟩
   ·rw [if_neg c9] at H
    exact absurd H (by simp)
  ·rw [if_neg c8] at H
   exact absurd H (by simp)

end Go.Proofs.Ytchpeobenlnemaa.S
end

section
namespace Go.Proofs.Ytchpeobenlnemaa.S
open Go.RowKit Go.Proofs.YtchpeobenlnemaaW.PrintWords Go.Proofs.YtchpeobenlnemaaW.PrintLast Go.Proofs.YtchpeobenlnemaaW.PrintMore
attribute [local go_sem] max2_int min2_int max_two min_two max_three min_three max_four min_four   -- for this text's walks alone
attribute [local go_sem] Go.Proofs.Ytchpeobenlnemaa.XWalk.cell2
set_option linter.unusedVariables false
set_option linter.unusedSimpArgs false

/-! ### lombardref08_Build: function 12 -/
mutual
def lombardref08_Build.l0 : Nat → List Int → Int → Int → Int → Int → List Int → Int → Option ((List (S59)) × Int)
 | 0, _, _, _, _, _, _, _ => none
 | k + 1, x5, x24, x25, x236000, x236001, x236002, x236003 => if x25 < x24 then (if 0 ≤ x25 then (if x25 < (x5.length : Int) then (lombardref08_Build.l0 k (x5.set (x25 : Int).toNat 1) x24 (wrap64 (x25 + 1)) x236000 x236001 x236002 x236003) else (none)) else (none)) else ((lombardref01_Split.f k x236001 x5).bind fun bt241 => (lombardref08_Build.l1 k bt241.1 ([] : List (S59)) x236001 0 0 x236000 x236001 x236002 x236003))
def lombardref08_Build.l1 : Nat → List Int → List (S59) → Int → Int → Int → Int → Int → List Int → Int → Option ((List (S59)) × Int)
 | 0, _, _, _, _, _, _, _, _, _ => none
 | k + 1, x7, x9, x10, x11, x12, x236000, x236001, x236002, x236003 => if x12 < x236003 then ((lombardref08_rate.f x236000 x236001 x236002 x236003 x12).bind fun t245 => ((lombardref03_Interest.f x10 t245).bind fun bt247 => (if x236000 = 1 then (if x12 = 0 then (lombardref08_Build.j2 k x7 x9 x10 x11 x12 t245 true x236000 x236001 x236002 x236003 bt247.1 0 0 0) else ((lombardref08_rate.f x236000 x236001 x236002 x236003 (wrap64 (x12 - 1))).bind fun t249 => (lombardref08_Build.j2 k x7 x9 x10 x11 x12 t245 (t245 != t249) x236000 x236001 x236002 x236003 bt247.1 0 0 0))) else (lombardref08_Build.j2 k x7 x9 x10 x11 x12 t245 false x236000 x236001 x236002 x236003 bt247.1 0 0 0)))) else (some (x9, 0))
def lombardref08_Build.j2 : Nat → List Int → List (S59) → Int → Int → Int → Int → Bool → Int → Int → List Int → Int → Int → Int → Int → Int → Option ((List (S59)) × Int)
 | 0, _, _, _, _, _, _, _, _, _, _, _, _, _, _, _ => none
 | k + 1, x7, x9, x10, x11, x12, x13, x71, x236000, x236001, x236002, x236003, x247000, x247001, x247002, x247003 => if x71 = true then ((lombardref08_Level.f k x10 x13 (wrap64 (x236003 - x12))).bind fun bt250 => (lombardref08_Build.j3 k x7 x9 x10 bt250.1 x12 x236000 x236001 x236002 x236003 x247000 x247001 x247002 x247003)) else (lombardref08_Build.j3 k x7 x9 x10 x11 x12 x236000 x236001 x236002 x236003 x247000 x247001 x247002 x247003)
def lombardref08_Build.j3 : Nat → List Int → List (S59) → Int → Int → Int → Int → Int → List Int → Int → Int → Int → Int → Int → Option ((List (S59)) × Int)
 | 0, _, _, _, _, _, _, _, _, _, _, _, _, _ => none
 | k + 1, x7, x9, x10, x11, x12, x236000, x236001, x236002, x236003, x247000, x247001, x247002, x247003 => if x12 = (wrap64 (x236003 - 1)) then (if (wrap64 (x10 - (wrap64 ((wrap64 (x10 + x247000)) - x247000)))) > 10000000000000 then (some (([] : List (S59)), 3)) else (if (wrap64 (x10 + x247000)) > 10000000000000 then (some (([] : List (S59)), 3)) else (if x9.length < 4398046511104 then (lombardref08_Build.l1 k x7 (x9 ++ [(⟨x247000, wrap64 (x10 + x247000), wrap64 ((wrap64 (x10 + x247000)) - x247000), wrap64 (x10 - (wrap64 ((wrap64 (x10 + x247000)) - x247000)))⟩ : S59)]) (wrap64 (x10 - (wrap64 ((wrap64 (x10 + x247000)) - x247000)))) x11 (wrap64 (x12 + 1)) x236000 x236001 x236002 x236003) else (none)))) else (if x236000 = 1 then (if (wrap64 (x10 - (wrap64 ((mn x11 (wrap64 (x10 + x247000))) - x247000)))) > 10000000000000 then (some (([] : List (S59)), 3)) else (if (mn x11 (wrap64 (x10 + x247000))) > 10000000000000 then (some (([] : List (S59)), 3)) else (if x9.length < 4398046511104 then (lombardref08_Build.l1 k x7 (x9 ++ [(⟨x247000, mn x11 (wrap64 (x10 + x247000)), wrap64 ((mn x11 (wrap64 (x10 + x247000))) - x247000), wrap64 (x10 - (wrap64 ((mn x11 (wrap64 (x10 + x247000))) - x247000)))⟩ : S59)]) (wrap64 (x10 - (wrap64 ((mn x11 (wrap64 (x10 + x247000))) - x247000)))) x11 (wrap64 (x12 + 1)) x236000 x236001 x236002 x236003) else (none)))) else (if x236000 = 2 then (if 0 ≤ x12 then (if x12 < (x7.length : Int) then (if (wrap64 (x10 - (wrap64 ((wrap64 (x247000 + (rd x7 x12))) - x247000)))) > 10000000000000 then (some (([] : List (S59)), 3)) else (if (wrap64 (x247000 + (rd x7 x12))) > 10000000000000 then (some (([] : List (S59)), 3)) else (if x9.length < 4398046511104 then (lombardref08_Build.l1 k x7 (x9 ++ [(⟨x247000, wrap64 (x247000 + (rd x7 x12)), wrap64 ((wrap64 (x247000 + (rd x7 x12))) - x247000), wrap64 (x10 - (wrap64 ((wrap64 (x247000 + (rd x7 x12))) - x247000)))⟩ : S59)]) (wrap64 (x10 - (wrap64 ((wrap64 (x247000 + (rd x7 x12))) - x247000)))) x11 (wrap64 (x12 + 1)) x236000 x236001 x236002 x236003) else (none)))) else (none)) else (none)) else (if x236000 = 3 then (if (wrap64 (x10 - (wrap64 (x247000 - x247000)))) > 10000000000000 then (some (([] : List (S59)), 3)) else (if x247000 > 10000000000000 then (some (([] : List (S59)), 3)) else (if x9.length < 4398046511104 then (lombardref08_Build.l1 k x7 (x9 ++ [(⟨x247000, x247000, wrap64 (x247000 - x247000), wrap64 (x10 - (wrap64 (x247000 - x247000)))⟩ : S59)]) (wrap64 (x10 - (wrap64 (x247000 - x247000)))) x11 (wrap64 (x12 + 1)) x236000 x236001 x236002 x236003) else (none)))) else (if (wrap64 (x10 - (wrap64 (x247001 - x247000)))) > 10000000000000 then (some (([] : List (S59)), 3)) else (if x247001 > 10000000000000 then (some (([] : List (S59)), 3)) else (if x9.length < 4398046511104 then (lombardref08_Build.l1 k x7 (x9 ++ [(⟨x247000, x247001, wrap64 (x247001 - x247000), wrap64 (x10 - (wrap64 (x247001 - x247000)))⟩ : S59)]) (wrap64 (x10 - (wrap64 (x247001 - x247000)))) x11 (wrap64 (x12 + 1)) x236000 x236001 x236002 x236003) else (none)))))))
end
def lombardref08_Build.f (k : Nat) (a0_0 : Int) (a0_1 : Int) (l0_2 : List Int) (a0_3 : Int) : Option ((List (S59)) × Int) := (lombardref08_Check.f k a0_0 a0_1 l0_2 a0_3).bind fun t236 => (if t236 = 0 then (if 0 ≤ a0_3 then (if (a0_3 : Int).toNat ≤ 35184372088832 then ((some (List.replicate (a0_3 : Int).toNat 0 : List Int)).bind fun y237 => (lombardref08_Build.l0 k y237 (y237.length : Int) 0 a0_0 a0_1 l0_2 a0_3)) else (none)) else (none)) else (some (([] : List (S59)), t236)))
def lombardref08_Build.T26 : Bool × List (List Nat × List Nat) := (true, [([], []), ([0], [0]), ([], []), ([], []), ([2, 3], [2, 3]), ([4], [4]), ([1, 5], [1, 5]), ([0, 1, 2, 3, 4, 5, 6], []), ([7, 6, 0, 1, 2, 3, 4, 5, 6], [6, 7])])
def lombardref08_Build.B26 : List Nat := [0, 1, 0, 0, 12, 28, 63, 127, 255]
theorem lombardref08_Build.tab26 : rtab .any (opsOf Try.f12 26) = lombardref08_Build.T26 := by kernel_rfl
theorem lombardref08_Build.bits26 : waitsOk lombardref08_Build.T26.2 lombardref08_Build.B26 = true := by kernel_rfl
set_option maxHeartbeats 8000000 in
set_option maxRecDepth 100000 in
theorem lombardref08_Build.calls (k : Nat) (a0_0 : Int) (a0_1 : Int) (A0_2 : Option Addr) (c0_2 : Nat) (l0_2 : List Int) (a0_3 : Int) (r1 : List (S59)) (r2 : Int) (w : World) (hr0_2 : Kd.C (Kd.int .i64) w A0_2 l0_2.length l0_2) (hc0_2 : l0_2.length ≤ c0_2) (h : lombardref08_Build.f k a0_0 a0_1 l0_2 a0_3 = some (r1, r2)) :
  Calls Try.prog 12 #[.agg #[.int .i64 a0_0, .int .i64 a0_1, .slice A0_2 l0_2.length c0_2, .int .i64 a0_3]] w fun e w' => ∃ v0_ : Value, e = .returned (.tuple #[v0_, .int .i64 r2]) ∧ Kd.R k59 59 w' w.heap.size (fun _ => True) v0_ r1 ∧ Below w.heap.size w w' := by
 have hu24 := Try.underlying24
 have hu59 := Try.underlying59
 have HR0_2 := Aside0.mk hr0_2
 have HC0_2 := Aside0.mk hc0_2
 clear hr0_2 hc0_2
 have HB := Aside0.mk (Below.refl w.heap.size w)
 have H : ((lombardref08_Check.f k a0_0 a0_1 l0_2 a0_3).bind fun t236 => (if t236 = 0 then (if 0 ≤ a0_3 then (if (a0_3 : Int).toNat ≤ 35184372088832 then ((some (List.replicate (a0_3 : Int).toNat 0 : List Int)).bind fun y237 => (lombardref08_Build.l0 k y237 (y237.length : Int) 0 a0_0 a0_1 l0_2 a0_3)) else (none)) else (none)) else (some (([] : List (S59)), t236)))) = some (r1, r2) := h
 clear h
 replace H := Option.bind_eq_some_iff.mp H
 obtain ⟨t236, A20, H⟩ := H
 replace H : (if t236 = 0 then (if 0 ≤ a0_3 then (if (a0_3 : Int).toNat ≤ 35184372088832 then ((some (List.replicate (a0_3 : Int).toNat 0 : List Int)).bind fun y237 => (lombardref08_Build.l0 k y237 (y237.length : Int) 0 a0_0 a0_1 l0_2 a0_3)) else (none)) else (none)) else (some (([] : List (S59)), t236))) = some (r1, r2) := H
 have A2 := Aside0.mk A20
 clear A20
 by_cases c3 : t236 = 0
 ·rw [if_pos c3] at H
  have c3b0 : (t236 == 0) = true := beq_iff_eq.mpr c3
  have c3b1 : (t236 != 0) = false := bne_eq_false_iff_eq.mpr c3
  clear c3
  by_cases c4 : 0 ≤ a0_3
  ·rw [if_pos c4] at H
   have c4b0 := eq_true c4
   have c4b1 : decide (0 ≤ a0_3) = true := decide_eq_true c4
   clear c4
   by_cases c5 : (a0_3 : Int).toNat ≤ 35184372088832
   ·rw [if_pos c5] at H
    have c5b0 := eq_true c5
    have c5b1 : decide ((a0_3 : Int).toNat ≤ 35184372088832) = true := decide_eq_true c5
    clear c5
    obtain ⟨y237, hy237⟩ : ∃ y_ : List Int, y_ = (List.replicate (a0_3 : Int).toNat 0) := ⟨_, rfl⟩
    replace H : (lombardref08_Build.l0 k y237 (y237.length : Int) 0 a0_0 a0_1 l0_2 a0_3) = some (r1, r2) := by first | (rw [hy237]; with_reducible exact H) | (have H2_ := (Option.bind_some _ _).symm.trans H; rw [hy237]; with_reducible exact H2_) | (have H2_ := (Option.bind_some _ _).symm.trans H; with_reducible exact H2_) | with_reducible exact H | (rw [hy237]; exact H) | exact H
    have Ny237 := Aside0.mk hy237
    clear hy237
    have H' := Aside0.mk H
    clear H
    go_enter Try.func12, Try.ntmps12
    go_wp2_with (first | ((with_reducible refine gate_dst (N := 1) rfl ?_); refine box_event ?hg (N := 1) ?hd (cs := #[.int .i64 a0_0, .int .i64 a0_1, .slice A0_2 l0_2.length c0_2, .int .i64 a0_3]) (t := 24) ?hr ?_; (case hd => rfl); (case hg => rfl); (case hr => first | (go_simp; done) | (go_simp; rfl)); intro gb235 hg w6 hbox hb; have n0_ := Aside0.mk (below_step (by repeat (first | (with_reducible first | exact HB.out | apply below_alloc | apply pw_below_drewN | apply below_drew1) | exact HB.out)) hb); have n1_ := Aside0.mk (hbox); have n2_ := Aside0.mk ((by rw [hg]; exact (below_size (by repeat (first | (with_reducible first | exact HB.out | apply below_alloc | apply pw_below_drewN | apply below_drew1) | exact HB.out))) : w.heap.size ≤ gb235)); have n3_ := Aside0.mk ((by rw [hg]; exact (below_size (by repeat (first | (with_reducible first | exact HB.out | apply below_alloc | apply pw_below_drewN | apply below_drew1) | exact HB.out))) : w.heap.size ≤ gb235)); clear HB; have HB := n0_; have BK235 := n1_; have GW235 := n2_; have GE235 := n3_; clear n0_ n1_ n2_ n3_; clear hb hbox hg; have hcz7_0 := (blk_cell BK235.out 0).trans rfl; have hcz7_1 := (blk_cell BK235.out 1).trans rfl; have hcz7_2 := (blk_cell BK235.out 2).trans rfl; have hcz7_3 := (blk_cell BK235.out 3).trans rfl; have hfz7_0 := blk_frozen BK235.out 0; have hfz7_1 := blk_frozen BK235.out 1; have hfz7_2 := blk_frozen BK235.out 2; have hfz7_3 := blk_frozen BK235.out 3) | ((with_reducible refine gate_callee (f := 16) rfl ?_); refine goesL_ (some 16) rfl rfl Try.func16 (by kernel_rfl) rfl #[.agg #[.int .i64 a0_0, .int .i64 a0_1, .slice A0_2 l0_2.length c0_2, .int .i64 a0_3]] rfl (by (try simp only [List.map_toArray, List.map_cons, List.map_nil]); first | done | rfl | (simp only [List.length_drop, List.length_take]; rfl)) ?_; (with_reducible refine (lombardref08_Check.calls k a0_0 a0_1 _ _ l0_2 a0_3 t236 _ ?side1 ?side2 A2.out).mono ?_); (case side1 => repeat (first | exact (Kd.C_below HR0_2.out HB.out) | (with_reducible refine Kd.C_alloc ?_ _) | (with_reducible refine Kd.C_drewN ?_ _) | (with_reducible refine Kd.C_drew ?_))); (case side2 => exact HC0_2.out); rintro e w8 ⟨rfl, hb⟩; refine ⟨_, rfl, ?_⟩; have n0_ := Aside0.mk (blk_below (g := gb235) (o := .cells #[.int .i64 a0_0, .int .i64 a0_1, .slice A0_2 l0_2.length c0_2, .int .i64 a0_3] 24 (0, 0)) (by (with_reducible repeat (first | refine blk_drewN ?_ _ | refine blk_drew ?_ | refine blk_alloc ?_ _)); exact BK235.out) hb); have n1_ := Aside0.mk (below_step (by repeat (first | (with_reducible first | exact HB.out | apply below_alloc | apply pw_below_drewN | apply below_drew1 | refine below_set ?_ GE235.out) | exact HB.out)) hb); clear BK235; clear HB; have BK235 := n0_; have HB := n1_; clear n0_ n1_; (try clear hb); (try clear hb2); (try clear hk); (try clear hi); have hcz9_0 := (blk_cell BK235.out 0).trans rfl; have hcz9_1 := (blk_cell BK235.out 1).trans rfl; have hcz9_2 := (blk_cell BK235.out 2).trans rfl; have hcz9_3 := (blk_cell BK235.out 3).trans rfl; have hfz9_0 := blk_frozen BK235.out 0; have hfz9_1 := blk_frozen BK235.out 1; have hfz9_2 := blk_frozen BK235.out 2; have hfz9_3 := blk_frozen BK235.out 3) | ((with_reducible refine gate_dst (N := 22) rfl ?_); refine Kd.R_make (Kd.int .i64) _ 2 rfl (N := 22) rfl 22 _ _ rfl a0_3 rfl rfl Try.underlying22 (.int .i64 0) 8 info2 rfl (by decide) (by omega) 0 (ok := fun _ => True) (okp := fun _ => True) rfl (fun _ hk => hk) trivial (of_decide_eq_true (by first | (with_reducible assumption) | assumption)) (Nat.le_trans (Nat.mul_le_mul_right _ (of_decide_eq_true (by first | (with_reducible assumption) | assumption) : a0_3.toNat ≤ 35184372088832)) (by omega)) (Below.refl _ _) (Nat.le_refl _) ?_; intro v238 w10 ho11 hb hg_ hnew_; clear hg_ hnew_; (first | rw [← Ny237.out] at ho11 | (simp only [Int.reduceToNat] at ho11; rw [← Ny237.out] at ho11)); have n0_ := Aside0.mk (Kd.R_lower ho11 (below_size (by repeat (first | (with_reducible first | exact HB.out | apply below_alloc | apply pw_below_drewN | apply below_drew1 | refine below_set ?_ GE235.out) | exact HB.out)))); have n1_ := Aside0.mk (blk_below (g := gb235) (o := .cells #[.int .i64 a0_0, .int .i64 a0_1, .slice A0_2 l0_2.length c0_2, .int .i64 a0_3] 24 (0, 0)) (by (with_reducible repeat (first | refine blk_drewN ?_ _ | refine blk_drew ?_ | refine blk_alloc ?_ _)); exact BK235.out) hb); have n2_ := Aside0.mk (below_step (by repeat (first | (with_reducible first | exact HB.out | apply below_alloc | apply pw_below_drewN | apply below_drew1 | refine below_set ?_ GE235.out) | exact HB.out)) hb); clear BK235; clear HB; have HO239 := n0_; have BK235 := n1_; have HB := n2_; clear n0_ n1_ n2_; clear hb ho11; obtain ⟨Ao12, co12, eo12⟩ := Kd.R_slice HO239.out; subst eo12))
    go_loopg [25] k (fun kq v25 w' => ∃ (x5_1 : List Int) (x25_1 : Int), v25 = .int .i64 x25_1 ∧ Aside0 (lombardref08_Build.l0 kq x5_1 (y237.length : Int) x25_1 a0_0 a0_1 l0_2 a0_3 = some (r1, r2)) ∧ Aside0 (kq ≤ k) ∧ Aside0 (Kd.R (Kd.int .i64) 2 w' w.heap.size (fun _ => True) (.slice Ao12 y237.length co12) x5_1) ∧ Aside0 (w'.heap[gb235]? = some (.cells #[.int .i64 a0_0, .int .i64 a0_1, (.slice A0_2 l0_2.length c0_2), .int .i64 a0_3] 24 (0, 0))) ∧ Aside0 (Below w.heap.size w w'))
    case atStart => exact ⟨(y237), (0), (by first | rfl | (simp; done) | (simp [*]; done)), H', ⟨Nat.le_refl _⟩, ⟨by (with_reducible repeat (first | apply Kd.R_alloc | apply Kd.R_drewN | apply Kd.R_drew)); exact HO239.out⟩, ⟨by (with_reducible repeat (first | refine blk_drewN ?_ _ | refine blk_drew ?_ | refine blk_alloc ?_ _)); exact BK235.out⟩, ⟨by repeat (first | (with_reducible first | exact HB.out | apply below_alloc | apply pw_below_drewN | apply below_drew1 | refine below_set ?_ GE235.out) | exact HB.out)⟩⟩
    case round =>
     clear H'
     repeat first | clear c1 | clear p2 | clear c3 | clear c3b0 | clear c3b1 | clear c4 | clear c4b0 | clear c4b1 | clear c5 | clear c5b0 | clear c5b1 | clear c12 | clear hcz7_0 | clear hcz7_1 | clear hcz7_2 | clear hcz7_3 | clear hcz9_0 | clear hcz9_1 | clear hcz9_2 | clear hcz9_3 | clear hfz7_0 | clear hfz7_1 | clear hfz7_2 | clear hfz7_3 | clear hfz9_0 | clear hfz9_1 | clear hfz9_2 | clear hfz9_3
     obtain ⟨x5_1, x25_1, rfl, HA, HK1, HO_5, BK235, HB⟩ := hrel
     have hl5_1 := (Kd.R_reads' HO_5.out).1
     rw [hl5_1] at HO_5
     (try simp only [hl5_1])
     (try simp only [hl5_1] at BK235)
     cases gk with
     | zero => exact absurd HA.out (by simp [lombardref08_Build.l0])
     | succ k1 =>
      have H := HA.out
      clear HA
      simp only [lombardref08_Build.l0] at H
      by_cases c13 : x25_1 < (y237.length : Int)
      ·rw [if_pos c13] at H
       have c13b0 : decide (x25_1 < (y237.length : Int)) = true := decide_eq_true c13
       clear c13
       by_cases c14 : 0 ≤ x25_1
       ·rw [if_pos c14] at H
        have c14b0 : decide (0 ≤ x25_1) = true := decide_eq_true c14
        clear c14
        by_cases c15 : x25_1 < (x5_1.length : Int)
        ·rw [if_pos c15] at H
         have c15b0 : decide (x25_1 < (x5_1.length : Int)) = true := decide_eq_true c15
         clear c15
         obtain ⟨y240, hy240⟩ : ∃ y_ : List Int, y_ = (x5_1.set (x25_1 : Int).toNat 1) := ⟨_, rfl⟩
         replace H : (lombardref08_Build.l0 k1 y240 (y237.length : Int) (wrap64 (x25_1 + 1)) a0_0 a0_1 l0_2 a0_3) = some (r1, r2) := by first | (rw [hy240]; with_reducible exact H) | (have H2_ := (Option.bind_some _ _).symm.trans H; rw [hy240]; with_reducible exact H2_) | (have H2_ := (Option.bind_some _ _).symm.trans H; with_reducible exact H2_) | with_reducible exact H | (rw [hy240]; exact H) | exact H
         have Ny240 := Aside0.mk hy240
         clear hy240
         have H' := Aside0.mk H
         clear H
         have p16 : 0 ≤ (x25_1 : Int) := of_decide_eq_true (by first | (with_reducible assumption) | assumption)
         have q16 : (x25_1 : Int) < ((x5_1.length : Int) : Int) := of_decide_eq_true (by first | (with_reducible assumption) | assumption)
         obtain ⟨go16, co16, eo16, gb16, gl16, cl16, HG16⟩ := Kd.R_form HO_5.out (by omega)
         (first | cases eo16 | (injection eo16 with ea_ en_ ec_; (first | subst ea_ | (injection ea_ with ea_; subst ea_)); subst ec_; clear en_))
         have GB16 := Aside0.mk gb16
         have GG16 := Aside0.mk HG16
         clear gb16 gl16 HG16
         obtain ⟨hx16_0, hf16_0⟩ := Kd.R_celln 0 HO_5.out (x25_1 : Int) p16 q16
         replace p16 := eq_true p16
         replace q16 := eq_true q16
         have HP17 := Kd.R_putg HO_5.out (x25_1 : Int) 1
         go_wp2_with (first | ((with_reducible refine gate_store (t := 2) (p := 30) rfl ?_); refine store_event (t := 2) (p := 30) (v := ?vo_w18) (w1 := (wr.setCell ⟨go16, (x25_1 : Int).toNat, none⟩ (.int .i64 1))) ?hg ?ho ?hn ?hr ?_; (case ho => rfl); (case hg => rfl); (case hn => rfl); (case hr => first | (go_simp; done) | (go_simp; rfl)); intro w18 hw; have hg : wr.grownBy w18 (some go16) := (by rw [hw]; exact HP17.2); have hp_ : Kd.R (Kd.int .i64) 2 w18 w.heap.size (fun _ => True) (.slice (some ⟨go16, 0, none⟩) x5_1.length co12) y240 := (by rw [hw, Ny240.out]; exact HP17.1); clear HP17; have n0_ := Aside0.mk (hp_); have n1_ := Aside0.mk (blk_grown (g := gb235) (o := .cells #[.int .i64 a0_0, .int .i64 a0_1, .slice A0_2 l0_2.length c0_2, .int .i64 a0_3] 24 (0, 0)) (by (with_reducible repeat (first | refine blk_drewN ?_ _ | refine blk_drew ?_ | refine blk_alloc ?_ _)); exact BK235.out) hg (Kd.R_ne HO_5.out BK235.out (by decide))); have n2_ := Aside0.mk ((by rw [hw]; exact below_set (HB.out) GB16.out : Below w.heap.size w w18)); clear HO_5; clear BK235; clear HB; have HO_5 := n0_; have BK235 := n1_; have HB := n2_; clear n0_ n1_ n2_; clear hg hw hp_))
         (try simp only [← hl5_1])
         go_roundg k1
         case measure => have := HK1.out; omega
         case rel => exact ⟨(y240), (wrap64 (x25_1 + 1)), (by first | rfl | (simp; done) | (simp [*]; done)), H', ⟨by have := HK1.out; omega⟩, ⟨by (try simp only [hl5_1]); (with_reducible repeat (first | apply Kd.R_alloc | apply Kd.R_drewN | apply Kd.R_drew)); exact HO_5.out⟩, ⟨by (try simp only [hl5_1]); (with_reducible repeat (first | refine blk_drewN ?_ _ | refine blk_drew ?_ | refine blk_alloc ?_ _)); exact BK235.out⟩, ⟨by repeat (first | (with_reducible first | exact HB.out | apply below_alloc | apply pw_below_drewN | apply below_drew1 | refine below_set ?_ GE235.out) | exact HB.out)⟩⟩
        ·rw [if_neg c15] at H
         exact absurd H (by simp)
       ·rw [if_neg c14] at H
        exact absurd H (by simp)
      ·rw [if_neg c13] at H
       have c13b0 : decide (x25_1 < (y237.length : Int)) = false := decide_eq_false c13
       have c13b0_r : decide (x25_1 < (x5_1.length : Int)) = false := by rw [← hl5_1]; exact c13b0
       clear c13
       replace H := Option.bind_eq_some_iff.mp H
       obtain ⟨⟨t241, t242⟩, A190, H⟩ := H
       replace H : (lombardref08_Build.l1 k1 t241 ([] : List (S59)) a0_1 0 0 a0_0 a0_1 l0_2 a0_3) = some (r1, r2) := H
       have A19 := Aside0.mk A190
       clear A190
       have H' := Aside0.mk H
       clear H
       have hcz20_0 := (blk_cell BK235.out 0).trans rfl
       have hcz20_1 := (blk_cell BK235.out 1).trans rfl
       have hcz20_2 := (blk_cell BK235.out 2).trans rfl
       have hcz20_3 := (blk_cell BK235.out 3).trans rfl
       have hfz20_0 := blk_frozen BK235.out 0
       have hfz20_1 := blk_frozen BK235.out 1
       have hfz20_2 := blk_frozen BK235.out 2
       have hfz20_3 := blk_frozen BK235.out 3
       go_wp2_with (first | ((with_reducible refine gate_callee (f := 28) rfl ?_); refine goesL_ (some 36) rfl rfl Try.func28 (by kernel_rfl) rfl #[.int .i64 a0_1, .slice Ao12 x5_1.length co12] rfl (by (try simp only [List.map_toArray, List.map_cons, List.map_nil]); first | done | rfl | (simp only [List.length_drop, List.length_take]; rfl)) ?_; (with_reducible refine (lombardref01_Split.calls k1 a0_1 _ _ x5_1 t241 t242 _ ?side1 ?side2 A19.out).mono ?_); (case side1 => repeat (first | exact (Kd.R_reads' HO_5.out).2.2 | (with_reducible refine Kd.C_alloc ?_ _) | (with_reducible refine Kd.C_drewN ?_ _) | (with_reducible refine Kd.C_drew ?_))); (case side2 => exact (Kd.R_reads' HO_5.out).2.1); rintro e w21 ⟨v243, rfl, ho0, hb⟩; refine ⟨_, rfl, ?_⟩; have n0_ := Aside0.mk (Kd.R_elder' (by (with_reducible repeat (first | apply Kd.R_alloc | apply Kd.R_drewN | apply Kd.R_drew)); exact HO_5.out) (Kd.R_base ho0) hb); have n1_ := Aside0.mk (Kd.R_lower (Kd.R_new' ho0 (Kd.R_lt (by (with_reducible repeat (first | apply Kd.R_alloc | apply Kd.R_drewN | apply Kd.R_drew)); exact HO_5.out))) (below_size (by repeat (first | (with_reducible first | exact HB.out | apply below_alloc | apply pw_below_drewN | apply below_drew1 | refine below_set ?_ GE235.out) | exact HB.out)))); have n2_ := Aside0.mk (blk_below (g := gb235) (o := .cells #[.int .i64 a0_0, .int .i64 a0_1, .slice A0_2 l0_2.length c0_2, .int .i64 a0_3] 24 (0, 0)) (by (with_reducible repeat (first | refine blk_drewN ?_ _ | refine blk_drew ?_ | refine blk_alloc ?_ _)); exact BK235.out) hb); have n3_ := Aside0.mk (below_step (by repeat (first | (with_reducible first | exact HB.out | apply below_alloc | apply pw_below_drewN | apply below_drew1 | refine below_set ?_ GE235.out) | exact HB.out)) hb); clear HO_5; clear BK235; clear HB; have HO_5 := n0_; have HO244 := n1_; have BK235 := n2_; have HB := n3_; clear n0_ n1_ n2_ n3_; (try clear hb); (try clear hb2); (try clear hk); (try clear hi); (try clear ho0); have hcz22_0 := (blk_cell BK235.out 0).trans rfl; have hcz22_1 := (blk_cell BK235.out 1).trans rfl; have hcz22_2 := (blk_cell BK235.out 2).trans rfl; have hcz22_3 := (blk_cell BK235.out 3).trans rfl; have hfz22_0 := blk_frozen BK235.out 0; have hfz22_1 := blk_frozen BK235.out 1; have hfz22_2 := blk_frozen BK235.out 2; have hfz22_3 := blk_frozen BK235.out 3))
       go_loopg [9, 10, 11, 12] k1 (fun kq v9 v10 v11 v12 w' => ∃ (x9_2 : List (S59)) (x10_2 : Int) (x11_2 : Int) (x12_2 : Int), v10 = .int .i64 x10_2 ∧ v11 = .int .i64 x11_2 ∧ v12 = .int .i64 x12_2 ∧ Aside0 (lombardref08_Build.l1 kq t241 x9_2 x10_2 x11_2 x12_2 a0_0 a0_1 l0_2 a0_3 = some (r1, r2)) ∧ Aside0 (kq ≤ k1) ∧ Aside0 (Kd.R (Kd.int .i64) 2 w' w.heap.size (fun _ => True) v243 t241) ∧ Aside0 (Kd.R k59 59 w' w.heap.size (fun _ => True) v9 x9_2) ∧ Aside0 (w'.heap[gb235]? = some (.cells #[.int .i64 a0_0, .int .i64 a0_1, (.slice A0_2 l0_2.length c0_2), .int .i64 a0_3] 24 (0, 0))) ∧ Aside0 (Below w.heap.size w w'))
       case atStart => exact ⟨(([] : List (S59))), (a0_1), (0), (0), (by first | rfl | (simp; done) | (simp [*]; done)), (by first | rfl | (simp; done) | (simp [*]; done)), (by first | rfl | (simp; done) | (simp [*]; done)), H', ⟨Nat.le_refl _⟩, ⟨by (try simp only [hl5_1]); (with_reducible repeat (first | apply Kd.R_alloc | apply Kd.R_drewN | apply Kd.R_drew)); exact Kd.R_mono HO244.out (fun _ hk => trivial)⟩, ⟨by (try simp only [hl5_1]); first | exact Kd.R_nil _ _ _ _ _ | exact Kd.N_nil _ _ _ _ _ | exact Kd.V_nil _ _ _ _ _ | exact Kd.Q_nil _ _ _ _ _ | exact Kd.S_nil _ _ _ _ _⟩, ⟨by (try simp only [hl5_1]); (with_reducible repeat (first | refine blk_drewN ?_ _ | refine blk_drew ?_ | refine blk_alloc ?_ _)); exact BK235.out⟩, ⟨by repeat (first | (with_reducible first | exact HB.out | apply below_alloc | apply pw_below_drewN | apply below_drew1 | refine below_set ?_ GE235.out) | exact HB.out)⟩⟩
       case round =>
        clear H'
        repeat first | clear c1 | clear p1 | clear q1 | clear hx1 | clear hf1 | clear c2 | clear p2 | clear c3 | clear c3b0 | clear c3b1 | clear c4 | clear c4b0 | clear c4b1 | clear c5 | clear c5b0 | clear c5b1 | clear p6 | clear c12 | clear c13 | clear c13b0 | clear c14 | clear c14b0 | clear c15 | clear c15b0 | clear c16 | clear p16 | clear q16 | clear hx16 | clear hf16 | clear hcz20_0 | clear hcz20_1 | clear hcz20_2 | clear hcz20_3 | clear hcz22_0 | clear hcz22_1 | clear hcz22_2 | clear hcz22_3 | clear hcz7_0 | clear hcz7_1 | clear hcz7_2 | clear hcz7_3 | clear hcz9_0 | clear hcz9_1 | clear hcz9_2 | clear hcz9_3 | clear hfz20_0 | clear hfz20_1 | clear hfz20_2 | clear hfz20_3 | clear hfz22_0 | clear hfz22_1 | clear hfz22_2 | clear hfz22_3 | clear hfz7_0 | clear hfz7_1 | clear hfz7_2 | clear hfz7_3 | clear hfz9_0 | clear hfz9_1 | clear hfz9_2 | clear hfz9_3 | clear hx16_0 | clear p16 | clear p2 | clear q16
        obtain ⟨x9_2, x10_2, x11_2, x12_2, rfl, rfl, rfl, HA, HK2, HO_7, HO_9, BK235, HB⟩ := hrel
        cases gk with
        | zero => exact absurd HA.out (by simp [lombardref08_Build.l1])
        | succ k2 =>
         have H := HA.out
         clear HA
         simp only [lombardref08_Build.l1] at H
         by_cases c23 : x12_2 < a0_3
         ·rw [if_pos c23] at H
          have c23b0 : decide (x12_2 < a0_3) = true := decide_eq_true c23
          clear c23
          replace H := Option.bind_eq_some_iff.mp H
          obtain ⟨t245, A240, H⟩ := H
          replace H : ((lombardref03_Interest.f x10_2 t245).bind fun bt247 => (if a0_0 = 1 then (if x12_2 = 0 then (lombardref08_Build.j2 k2 t241 x9_2 x10_2 x11_2 x12_2 t245 true a0_0 a0_1 l0_2 a0_3 bt247.1 0 0 0) else ((lombardref08_rate.f a0_0 a0_1 l0_2 a0_3 (wrap64 (x12_2 - 1))).bind fun t249 => (lombardref08_Build.j2 k2 t241 x9_2 x10_2 x11_2 x12_2 t245 (t245 != t249) a0_0 a0_1 l0_2 a0_3 bt247.1 0 0 0))) else (lombardref08_Build.j2 k2 t241 x9_2 x10_2 x11_2 x12_2 t245 false a0_0 a0_1 l0_2 a0_3 bt247.1 0 0 0))) = some (r1, r2) := H
          have A24 := Aside0.mk A240
          clear A240
          replace H := Option.bind_eq_some_iff.mp H
          obtain ⟨⟨t247, t248⟩, A250, H⟩ := H
          replace H : (if a0_0 = 1 then (if x12_2 = 0 then (lombardref08_Build.j2 k2 t241 x9_2 x10_2 x11_2 x12_2 t245 true a0_0 a0_1 l0_2 a0_3 t247 0 0 0) else ((lombardref08_rate.f a0_0 a0_1 l0_2 a0_3 (wrap64 (x12_2 - 1))).bind fun t249 => (lombardref08_Build.j2 k2 t241 x9_2 x10_2 x11_2 x12_2 t245 (t245 != t249) a0_0 a0_1 l0_2 a0_3 t247 0 0 0))) else (lombardref08_Build.j2 k2 t241 x9_2 x10_2 x11_2 x12_2 t245 false a0_0 a0_1 l0_2 a0_3 t247 0 0 0)) = some (r1, r2) := H
          have A25 := Aside0.mk A250
          clear A250
          have HC26 := Aside0.mk H
          clear H
          have hcz27_0 := (blk_cell BK235.out 0).trans rfl
          have hcz27_1 := (blk_cell BK235.out 1).trans rfl
          have hcz27_2 := (blk_cell BK235.out 2).trans rfl
          have hcz27_3 := (blk_cell BK235.out 3).trans rfl
          have hfz27_0 := blk_frozen BK235.out 0
          have hfz27_1 := blk_frozen BK235.out 1
          have hfz27_2 := blk_frozen BK235.out 2
          have hfz27_3 := blk_frozen BK235.out 3
          go_upto_region 19 with (first | ((with_reducible refine gate_callee (f := 29) rfl ?_); refine goesL_ (some 49) rfl rfl Try.func29 (by kernel_rfl) rfl #[.agg #[.int .i64 a0_0, .int .i64 a0_1, .slice A0_2 l0_2.length c0_2, .int .i64 a0_3], .int .i64 x12_2] rfl (by (try simp only [List.map_toArray, List.map_cons, List.map_nil]); first | done | rfl | (simp only [List.length_drop, List.length_take]; rfl)) ?_; (with_reducible refine (lombardref08_rate.calls a0_0 a0_1 _ _ l0_2 a0_3 x12_2 t245 _ ?side1 ?side2 A24.out).mono ?_); (case side1 => repeat (first | exact (Kd.C_below HR0_2.out HB.out) | (with_reducible refine Kd.C_alloc ?_ _) | (with_reducible refine Kd.C_drewN ?_ _) | (with_reducible refine Kd.C_drew ?_))); (case side2 => exact HC0_2.out); rintro e w28 ⟨rfl, hb⟩; refine ⟨_, rfl, ?_⟩; have n0_ := Aside0.mk (Kd.R_below (by (with_reducible repeat (first | apply Kd.R_alloc | apply Kd.R_drewN | apply Kd.R_drew)); exact HO_7.out) hb); have n1_ := Aside0.mk (Kd.R_below (by (with_reducible repeat (first | apply Kd.R_alloc | apply Kd.R_drewN | apply Kd.R_drew)); exact HO_9.out) hb); have n2_ := Aside0.mk (blk_below (g := gb235) (o := .cells #[.int .i64 a0_0, .int .i64 a0_1, .slice A0_2 l0_2.length c0_2, .int .i64 a0_3] 24 (0, 0)) (by (with_reducible repeat (first | refine blk_drewN ?_ _ | refine blk_drew ?_ | refine blk_alloc ?_ _)); exact BK235.out) hb); have n3_ := Aside0.mk (below_step (by repeat (first | (with_reducible first | exact HB.out | apply below_alloc | apply pw_below_drewN | apply below_drew1 | refine below_set ?_ GE235.out) | exact HB.out)) hb); clear HO_7; clear HO_9; clear BK235; clear HB; have HO_7 := n0_; have HO_9 := n1_; have BK235 := n2_; have HB := n3_; clear n0_ n1_ n2_ n3_; (try clear hb); (try clear hb2); (try clear hk); (try clear hi)) | ((with_reducible refine gate_dst (N := 14) rfl ?_); refine box_event ?hg (N := 14) ?hd (cs := #[.int .i64 0, .int .i64 0, .int .i64 0, .int .i64 0]) (t := 59) ?hr ?_; (case hd => rfl); (case hg => rfl); (case hr => first | (go_simp; done) | (go_simp; rfl)); intro gb246 hg w29 hbox hb; have n0_ := Aside0.mk (Kd.R_below (by (with_reducible repeat (first | apply Kd.R_alloc | apply Kd.R_drewN | apply Kd.R_drew)); exact HO_7.out) hb); have n1_ := Aside0.mk (Kd.R_below (Kd.R_elderB (by (with_reducible repeat (first | apply Kd.R_alloc | apply Kd.R_drewN | apply Kd.R_drew)); exact HO_9.out) gb246 (Nat.le_of_eq hg.symm)) hb); have n2_ := Aside0.mk (blk_below (g := gb235) (o := .cells #[.int .i64 a0_0, .int .i64 a0_1, .slice A0_2 l0_2.length c0_2, .int .i64 a0_3] 24 (0, 0)) (by (with_reducible repeat (first | refine blk_drewN ?_ _ | refine blk_drew ?_ | refine blk_alloc ?_ _)); exact BK235.out) hb); have n3_ := Aside0.mk (below_step (by repeat (first | (with_reducible first | exact HB.out | apply below_alloc | apply pw_below_drewN | apply below_drew1 | refine below_set ?_ GE235.out) | exact HB.out)) hb); have n4_ := Aside0.mk (hbox); have n5_ := Aside0.mk ((by rw [hg]; exact (below_size (by repeat (first | (with_reducible first | exact HB.out | apply below_alloc | apply pw_below_drewN | apply below_drew1 | refine below_set ?_ GE235.out) | exact HB.out))) : w.heap.size ≤ gb246)); have n6_ := Aside0.mk ((by rw [hg]; exact (below_size (by repeat (first | (with_reducible first | exact HB.out | apply below_alloc | apply pw_below_drewN | apply below_drew1 | refine below_set ?_ GE235.out) | exact HB.out))) : w.heap.size ≤ gb246)); have n7_ := Aside0.mk ((by rw [hg]; exact Nat.ne_of_lt (blk_lt (g := gb235) (o := .cells #[.int .i64 a0_0, .int .i64 a0_1, .slice A0_2 l0_2.length c0_2, .int .i64 a0_3] 24 (0, 0)) (by (with_reducible repeat (first | refine blk_drewN ?_ _ | refine blk_drew ?_ | refine blk_alloc ?_ _)); exact BK235.out)) : gb235 ≠ gb246)); have n8_ := Aside0.mk ((by rw [hg]; exact Nat.ne_of_gt (blk_lt (g := gb235) (o := .cells #[.int .i64 a0_0, .int .i64 a0_1, .slice A0_2 l0_2.length c0_2, .int .i64 a0_3] 24 (0, 0)) (by (with_reducible repeat (first | refine blk_drewN ?_ _ | refine blk_drew ?_ | refine blk_alloc ?_ _)); exact BK235.out)) : gb246 ≠ gb235)); clear HO_7; clear HO_9; clear BK235; clear HB; have HO_7 := n0_; have HO_9 := n1_; have BK235 := n2_; have HB := n3_; have BK246 := n4_; have GW246 := n5_; have GE246 := n6_; have NB235_246 := n7_; have NB246_235 := n8_; clear n0_ n1_ n2_ n3_ n4_ n5_ n6_ n7_ n8_; clear hb hbox hg) | ((with_reducible refine gate_callee (f := 30) rfl ?_); refine goesL_ (some 53) rfl rfl Try.func30 (by kernel_rfl) rfl #[.int .i64 x10_2, .int .i64 t245] rfl (by (try simp only [List.map_toArray, List.map_cons, List.map_nil]); first | done | rfl | (simp only [List.length_drop, List.length_take]; rfl)) ?_; (with_reducible refine (lombardref03_Interest.calls x10_2 t245 t247 t248 _ A25.out).mono ?_); rintro e w30 ⟨rfl, hb⟩; refine ⟨_, rfl, ?_⟩; have n0_ := Aside0.mk (Kd.R_below (by (with_reducible repeat (first | apply Kd.R_alloc | apply Kd.R_drewN | apply Kd.R_drew)); exact HO_7.out) hb); have n1_ := Aside0.mk (Kd.R_below (by (with_reducible repeat (first | apply Kd.R_alloc | apply Kd.R_drewN | apply Kd.R_drew)); exact HO_9.out) hb); have n2_ := Aside0.mk (blk_below (g := gb235) (o := .cells #[.int .i64 a0_0, .int .i64 a0_1, .slice A0_2 l0_2.length c0_2, .int .i64 a0_3] 24 (0, 0)) (by (with_reducible repeat (first | refine blk_drewN ?_ _ | refine blk_drew ?_ | refine blk_alloc ?_ _)); exact BK235.out) hb); have n3_ := Aside0.mk (blk_below (g := gb246) (o := .cells #[.int .i64 0, .int .i64 0, .int .i64 0, .int .i64 0] 59 (0, 0)) (by (with_reducible repeat (first | refine blk_drewN ?_ _ | refine blk_drew ?_ | refine blk_alloc ?_ _)); exact BK246.out) hb); have n4_ := Aside0.mk (below_step (by repeat (first | (with_reducible first | exact HB.out | apply below_alloc | apply pw_below_drewN | apply below_drew1 | refine below_set ?_ GE235.out | refine below_set ?_ GE246.out) | exact HB.out)) hb); clear HO_7; clear HO_9; clear BK235; clear BK246; clear HB; have HO_7 := n0_; have HO_9 := n1_; have BK235 := n2_; have BK246 := n3_; have HB := n4_; clear n0_ n1_ n2_ n3_ n4_; (try clear hb); (try clear hb2); (try clear hk); (try clear hi); have hnb31 := NB246_235.out; have hnc31 := NB235_246.out; have hcz32_0 := (blk_cell BK246.out 0).trans rfl; have hcz32_1 := (blk_cell BK246.out 1).trans rfl; have hcz32_2 := (blk_cell BK246.out 2).trans rfl; have hcz32_3 := (blk_cell BK246.out 3).trans rfl; have hfz32_0 := blk_frozen BK246.out 0; have hfz32_1 := blk_frozen BK246.out 1; have hfz32_2 := blk_frozen BK246.out 2; have hfz32_3 := blk_frozen BK246.out 3))
          (try simp only [Act.put, List.setIfInBounds_toArray, List.set_cons_zero, List.set_cons_succ])
          go_cut [71] (fun v71 wc => ∃ (kq : Nat) (x71_25 : Bool), v71 = .bool x71_25 ∧ Aside0 (lombardref08_Build.j2 kq t241 x9_2 x10_2 x11_2 x12_2 t245 x71_25 a0_0 a0_1 l0_2 a0_3 t247 0 0 0 = some (r1, r2)) ∧ Aside0 (kq ≤ k2) ∧ Aside0 (Kd.R (Kd.int .i64) 2 wc w.heap.size (fun _ => True) v243 t241) ∧ Aside0 (Kd.R k59 59 wc w.heap.size (fun k_ => k_ ≠ gb246) u9 x9_2) ∧ Aside0 (wc.heap[gb235]? = some (.cells #[.int .i64 a0_0, .int .i64 a0_1, (.slice A0_2 l0_2.length c0_2), .int .i64 a0_3] 24 (0, 0))) ∧ Aside0 (wc.heap[gb246]? = some (.cells #[.int .i64 t247, .int .i64 0, .int .i64 0, .int .i64 0] 59 (0, 0))) ∧ Aside0 (Below w.heap.size w wc))
          case first =>
           have H := HC26.out
           clear HC26
           by_cases c33 : a0_0 = 1
           ·rw [if_pos c33] at H
            have c33b0 : (a0_0 == 1) = true := beq_iff_eq.mpr c33
            have c33b1 : (a0_0 != 1) = false := bne_eq_false_iff_eq.mpr c33
            clear c33
            (first | rw [c33b0] | (simp only [i64_w, i32_w]; rw [c33b0]) | skip)
            by_cases c34 : x12_2 = 0
            ·rw [if_pos c34] at H
             have c34b0 : (x12_2 == 0) = true := beq_iff_eq.mpr c34
             have c34b1 : (x12_2 != 0) = false := bne_eq_false_iff_eq.mpr c34
             clear c34
             have H' := Aside0.mk H
             clear H
             have hnb35 := NB235_246.out
             have hnc35 := NB246_235.out
             have hcz36_0 := (blk_cell BK235.out 0).trans rfl
             have hcz36_1 := (blk_cell BK235.out 1).trans rfl
             have hcz36_2 := (blk_cell BK235.out 2).trans rfl
             have hcz36_3 := (blk_cell BK235.out 3).trans rfl
             have hfz36_0 := blk_frozen BK235.out 0
             have hfz36_1 := blk_frozen BK235.out 1
             have hfz36_2 := blk_frozen BK235.out 2
             have hfz36_3 := blk_frozen BK235.out 3
             go_wp2
             go_meet
             case rel => exact ⟨_, (true), (by first | rfl | (simp; done) | (simp [*]; done)), H', ⟨by have := HK1.out; have := HK2.out; first | omega | exact Nat.le_refl _⟩, ⟨by (try simp only [hl5_1]); (with_reducible repeat (first | apply Kd.R_alloc | apply Kd.R_drewN | apply Kd.R_drew)); exact Kd.R_mono (Kd.R_far (p := ⟨gb246, 0, none⟩) (Kd.R_types HO_7.out BK246.out (by decide)) (fun _ hk => hk.2) (.int .i64 t247)) (fun _ hk => trivial)⟩, ⟨by (try simp only [hl5_1]); (with_reducible repeat (first | apply Kd.R_alloc | apply Kd.R_drewN | apply Kd.R_drew)); exact Kd.R_mono (Kd.R_far (p := ⟨gb246, 0, none⟩) (Kd.R_mono HO_9.out (fun k_ hk => (⟨hk, hk.2⟩ : _ ∧ k_ ≠ gb246))) (fun _ hk => hk.2) (.int .i64 t247)) (fun _ hk => hk.1.2)⟩, ⟨by (try simp only [hl5_1]); (with_reducible repeat (first | refine blk_drewN ?_ _ | refine blk_drew ?_ | refine blk_alloc ?_ _)); refine blk_far ?_ NB235_246.out _; (with_reducible repeat (first | refine blk_drewN ?_ _ | refine blk_drew ?_ | refine blk_alloc ?_ _)); exact BK235.out⟩, ⟨by (try simp only [hl5_1]); (with_reducible repeat (first | refine blk_drewN ?_ _ | refine blk_drew ?_ | refine blk_alloc ?_ _)); refine blk_put (cs := #[.int .i64 0, .int .i64 0, .int .i64 0, .int .i64 0]) ?_ 0 _ rfl; (with_reducible repeat (first | refine blk_drewN ?_ _ | refine blk_drew ?_ | refine blk_alloc ?_ _)); exact BK246.out⟩, ⟨by repeat (first | (with_reducible first | exact HB.out | apply below_alloc | apply pw_below_drewN | apply below_drew1 | refine below_set ?_ GE235.out | refine below_set ?_ GE246.out) | exact HB.out)⟩⟩
            ·rw [if_neg c34] at H
             have c34b0 : (x12_2 == 0) = false := beq_eq_false_iff_ne.mpr c34
             have c34b1 : (x12_2 != 0) = true := bne_iff_ne.mpr c34
             replace H := Option.bind_eq_some_iff.mp H
             obtain ⟨t249, A370, H⟩ := H
             replace H : (lombardref08_Build.j2 k2 t241 x9_2 x10_2 x11_2 x12_2 t245 (t245 != t249) a0_0 a0_1 l0_2 a0_3 t247 0 0 0) = some (r1, r2) := H
             have A37 := Aside0.mk A370
             clear A370
             have H' := Aside0.mk H
             clear H
             have hnb38 := NB235_246.out
             have hnc38 := NB246_235.out
             have hcz39_0 := (blk_cell BK235.out 0).trans rfl
             have hcz39_1 := (blk_cell BK235.out 1).trans rfl
             have hcz39_2 := (blk_cell BK235.out 2).trans rfl
             have hcz39_3 := (blk_cell BK235.out 3).trans rfl
             have hfz39_0 := blk_frozen BK235.out 0
             have hfz39_1 := blk_frozen BK235.out 1
             have hfz39_2 := blk_frozen BK235.out 2
             have hfz39_3 := blk_frozen BK235.out 3
             go_wp2_with (first | (go_at_call 29; (with_reducible refine (lombardref08_rate.calls a0_0 a0_1 _ _ l0_2 a0_3 (wrap64 (x12_2 - 1)) t249 _ ?side1 ?side2 A37.out).mono ?_); (case side1 => exact Kd.C_below HR0_2.out (by repeat (first | (with_reducible first | exact HB.out | apply below_alloc | apply pw_below_drewN | apply below_drew1 | refine below_set ?_ GE235.out | refine below_set ?_ GE246.out) | exact HB.out))); (case side2 => exact HC0_2.out); rintro e w40 ⟨rfl, hb⟩; have n0_ := Aside0.mk (Kd.R_below (by (with_reducible repeat (first | apply Kd.R_alloc | apply Kd.R_drewN | apply Kd.R_drew)); exact (Kd.R_mono (Kd.R_far (p := ⟨gb246, 0, none⟩) (Kd.R_types HO_7.out BK246.out (by decide)) (fun _ hk => hk.2) (.int .i64 t247)) (fun _ h_ => h_.1))) hb); have n1_ := Aside0.mk (Kd.R_below (by (with_reducible repeat (first | apply Kd.R_alloc | apply Kd.R_drewN | apply Kd.R_drew)); exact (Kd.R_mono (Kd.R_far (p := ⟨gb246, 0, none⟩) (Kd.R_mono HO_9.out (fun k_ hk => (⟨hk, hk.2⟩ : _ ∧ k_ ≠ gb246))) (fun _ hk => hk.2) (.int .i64 t247)) (fun _ h_ => h_.1))) hb); have n2_ := Aside0.mk (blk_below (g := gb235) (o := .cells #[.int .i64 a0_0, .int .i64 a0_1, .slice A0_2 l0_2.length c0_2, .int .i64 a0_3] 24 (0, 0)) (by (with_reducible repeat (first | refine blk_drewN ?_ _ | refine blk_drew ?_ | refine blk_alloc ?_ _)); refine blk_far ?_ NB235_246.out _; (with_reducible repeat (first | refine blk_drewN ?_ _ | refine blk_drew ?_ | refine blk_alloc ?_ _)); exact BK235.out) hb); have n3_ := Aside0.mk (blk_below (g := gb246) (o := .cells #[.int .i64 t247, .int .i64 0, .int .i64 0, .int .i64 0] 59 (0, 0)) (by (with_reducible repeat (first | refine blk_drewN ?_ _ | refine blk_drew ?_ | refine blk_alloc ?_ _)); refine blk_put (cs := #[.int .i64 0, .int .i64 0, .int .i64 0, .int .i64 0]) ?_ 0 _ rfl; (with_reducible repeat (first | refine blk_drewN ?_ _ | refine blk_drew ?_ | refine blk_alloc ?_ _)); exact BK246.out) hb); have n4_ := Aside0.mk (below_step (by repeat (first | (with_reducible first | exact HB.out | apply below_alloc | apply pw_below_drewN | apply below_drew1 | refine below_set ?_ GE235.out | refine below_set ?_ GE246.out) | exact HB.out)) hb); clear HO_7; clear HO_9; clear BK235; clear BK246; clear HB; have HO_7 := n0_; have HO_9 := n1_; have BK235 := n2_; have BK246 := n3_; have HB := n4_; clear n0_ n1_ n2_ n3_ n4_; (try clear hb); (try clear hb2); (try clear hk); (try clear hi)))
             go_meet
             case rel => exact ⟨_, ((t245 != t249)), (by first | rfl | (simp; done) | (simp [*]; done)), H', ⟨by have := HK1.out; have := HK2.out; first | omega | exact Nat.le_refl _⟩, ⟨by (try simp only [hl5_1]); (with_reducible repeat (first | apply Kd.R_alloc | apply Kd.R_drewN | apply Kd.R_drew)); exact HO_7.out⟩, ⟨by (try simp only [hl5_1]); (with_reducible repeat (first | apply Kd.R_alloc | apply Kd.R_drewN | apply Kd.R_drew)); exact Kd.R_mono HO_9.out (fun _ hk => hk.2)⟩, ⟨by (try simp only [hl5_1]); (with_reducible repeat (first | refine blk_drewN ?_ _ | refine blk_drew ?_ | refine blk_alloc ?_ _)); exact BK235.out⟩, ⟨by (try simp only [hl5_1]); (with_reducible repeat (first | refine blk_drewN ?_ _ | refine blk_drew ?_ | refine blk_alloc ?_ _)); exact BK246.out⟩, ⟨by repeat (first | (with_reducible first | exact HB.out | apply below_alloc | apply pw_below_drewN | apply below_drew1 | refine below_set ?_ GE235.out | refine below_set ?_ GE246.out) | exact HB.out)⟩⟩
           ·rw [if_neg c33] at H
            have c33b0 : (a0_0 == 1) = false := beq_eq_false_iff_ne.mpr c33
            have c33b1 : (a0_0 != 1) = true := bne_iff_ne.mpr c33
            (first | rw [c33b0] | (simp only [i64_w, i32_w]; rw [c33b0]) | skip)
            have H' := Aside0.mk H
            clear H
            have hnb41 := NB235_246.out
            have hnc41 := NB246_235.out
            have hcz42_0 := (blk_cell BK235.out 0).trans rfl
            have hcz42_1 := (blk_cell BK235.out 1).trans rfl
            have hcz42_2 := (blk_cell BK235.out 2).trans rfl
            have hcz42_3 := (blk_cell BK235.out 3).trans rfl
            have hfz42_0 := blk_frozen BK235.out 0
            have hfz42_1 := blk_frozen BK235.out 1
            have hfz42_2 := blk_frozen BK235.out 2
            have hfz42_3 := blk_frozen BK235.out 3
            go_wp2
            go_meet
            case rel => exact ⟨_, (false), (by first | rfl | (simp; done) | (simp [*]; done)), H', ⟨by have := HK1.out; have := HK2.out; first | omega | exact Nat.le_refl _⟩, ⟨by (try simp only [hl5_1]); (with_reducible repeat (first | apply Kd.R_alloc | apply Kd.R_drewN | apply Kd.R_drew)); exact Kd.R_mono (Kd.R_far (p := ⟨gb246, 0, none⟩) (Kd.R_types HO_7.out BK246.out (by decide)) (fun _ hk => hk.2) (.int .i64 t247)) (fun _ hk => trivial)⟩, ⟨by (try simp only [hl5_1]); (with_reducible repeat (first | apply Kd.R_alloc | apply Kd.R_drewN | apply Kd.R_drew)); exact Kd.R_mono (Kd.R_far (p := ⟨gb246, 0, none⟩) (Kd.R_mono HO_9.out (fun k_ hk => (⟨hk, hk.2⟩ : _ ∧ k_ ≠ gb246))) (fun _ hk => hk.2) (.int .i64 t247)) (fun _ hk => hk.1.2)⟩, ⟨by (try simp only [hl5_1]); (with_reducible repeat (first | refine blk_drewN ?_ _ | refine blk_drew ?_ | refine blk_alloc ?_ _)); refine blk_far ?_ NB235_246.out _; (with_reducible repeat (first | refine blk_drewN ?_ _ | refine blk_drew ?_ | refine blk_alloc ?_ _)); exact BK235.out⟩, ⟨by (try simp only [hl5_1]); (with_reducible repeat (first | refine blk_drewN ?_ _ | refine blk_drew ?_ | refine blk_alloc ?_ _)); refine blk_put (cs := #[.int .i64 0, .int .i64 0, .int .i64 0, .int .i64 0]) ?_ 0 _ rfl; (with_reducible repeat (first | refine blk_drewN ?_ _ | refine blk_drew ?_ | refine blk_alloc ?_ _)); exact BK246.out⟩, ⟨by repeat (first | (with_reducible first | exact HB.out | apply below_alloc | apply pw_below_drewN | apply below_drew1 | refine below_set ?_ GE235.out | refine below_set ?_ GE246.out) | exact HB.out)⟩⟩
          case rest =>
           clear HC26
           repeat first | clear c1 | clear p1 | clear q1 | clear hx1 | clear hf1 | clear c2 | clear p2 | clear c3 | clear c3b0 | clear c3b1 | clear c4 | clear c4b0 | clear c4b1 | clear c5 | clear c5b0 | clear c5b1 | clear p6 | clear c12 | clear c13 | clear c13b0 | clear c14 | clear c14b0 | clear c15 | clear c15b0 | clear c16 | clear p16 | clear q16 | clear hx16 | clear hf16 | clear c23 | clear c23b0 | clear c28 | clear c29 | clear c30 | clear c31 | clear c33 | clear c33b0 | clear c33b1 | clear c34 | clear c34b0 | clear c34b1 | clear c35 | clear c38 | clear c41 | clear hcz20_0 | clear hcz20_1 | clear hcz20_2 | clear hcz20_3 | clear hcz22_0 | clear hcz22_1 | clear hcz22_2 | clear hcz22_3 | clear hcz27_0 | clear hcz27_1 | clear hcz27_2 | clear hcz27_3 | clear hcz32_0 | clear hcz32_1 | clear hcz32_2 | clear hcz32_3 | clear hcz36_0 | clear hcz36_1 | clear hcz36_2 | clear hcz36_3 | clear hcz39_0 | clear hcz39_1 | clear hcz39_2 | clear hcz39_3 | clear hcz42_0 | clear hcz42_1 | clear hcz42_2 | clear hcz42_3 | clear hcz7_0 | clear hcz7_1 | clear hcz7_2 | clear hcz7_3 | clear hcz9_0 | clear hcz9_1 | clear hcz9_2 | clear hcz9_3 | clear hfz20_0 | clear hfz20_1 | clear hfz20_2 | clear hfz20_3 | clear hfz22_0 | clear hfz22_1 | clear hfz22_2 | clear hfz22_3 | clear hfz27_0 | clear hfz27_1 | clear hfz27_2 | clear hfz27_3 | clear hfz32_0 | clear hfz32_1 | clear hfz32_2 | clear hfz32_3 | clear hfz36_0 | clear hfz36_1 | clear hfz36_2 | clear hfz36_3 | clear hfz39_0 | clear hfz39_1 | clear hfz39_2 | clear hfz39_3 | clear hfz42_0 | clear hfz42_1 | clear hfz42_2 | clear hfz42_3 | clear hfz7_0 | clear hfz7_1 | clear hfz7_2 | clear hfz7_3 | clear hfz9_0 | clear hfz9_1 | clear hfz9_2 | clear hfz9_3 | clear hx16_0 | clear p1 | clear p16 | clear p2 | clear p6 | clear q1 | clear q16
           obtain ⟨kq, x71_25, rfl, HA, HJ25, HO_7, HO_9, BK235, BK246, HB⟩ := hcut
           cases kq with
           | zero => exact absurd HA.out (by simp [lombardref08_Build.j2])
           | succ kj25 =>
            have H := HA.out
            clear HA
            simp only [lombardref08_Build.j2] at H
            have HC43 := Aside0.mk H
            clear H
            go_upto_if 71 with (fail)
            go_cut [11] (fun v11 wc => ∃ (kq : Nat) (x11_42 : Int), v11 = .int .i64 x11_42 ∧ Aside0 (lombardref08_Build.j3 kq t241 x9_2 x10_2 x11_42 x12_2 a0_0 a0_1 l0_2 a0_3 t247 0 0 0 = some (r1, r2)) ∧ Aside0 (kq ≤ kj25) ∧ Aside0 (Kd.R (Kd.int .i64) 2 wc w.heap.size (fun _ => True) v243 t241) ∧ Aside0 (Kd.R k59 59 wc w.heap.size (fun k_ => k_ ≠ gb246) u9 x9_2) ∧ Aside0 (wc.heap[gb235]? = some (.cells #[.int .i64 a0_0, .int .i64 a0_1, (.slice A0_2 l0_2.length c0_2), .int .i64 a0_3] 24 (0, 0))) ∧ Aside0 (wc.heap[gb246]? = some (.cells #[.int .i64 t247, .int .i64 0, .int .i64 0, .int .i64 0] 59 (0, 0))) ∧ Aside0 (Below w.heap.size w wc))
            case first =>
             have H := HC43.out
             clear HC43
             by_cases c44 : x71_25 = true
             ·subst c44
              have H1 : ((lombardref08_Level.f kj25 x10_2 t245 (wrap64 (a0_3 - x12_2))).bind fun bt250 => (lombardref08_Build.j3 kj25 t241 x9_2 x10_2 bt250.1 x12_2 a0_0 a0_1 l0_2 a0_3 t247 0 0 0)) = some (r1, r2) := by rw [if_pos rfl] at H; exact H
              clear H
              have H := H1
              clear H1
              replace H := Option.bind_eq_some_iff.mp H
              obtain ⟨⟨t250, t251⟩, A450, H⟩ := H
              replace H : (lombardref08_Build.j3 kj25 t241 x9_2 x10_2 t250 x12_2 a0_0 a0_1 l0_2 a0_3 t247 0 0 0) = some (r1, r2) := H
              have A45 := Aside0.mk A450
              clear A450
              have H' := Aside0.mk H
              clear H
              have hnb46 := NB235_246.out
              have hnc46 := NB246_235.out
              have hcz47_0 := (blk_cell BK235.out 0).trans rfl
              have hcz47_1 := (blk_cell BK235.out 1).trans rfl
              have hcz47_2 := (blk_cell BK235.out 2).trans rfl
              have hcz47_3 := (blk_cell BK235.out 3).trans rfl
              have hfz47_0 := blk_frozen BK235.out 0
              have hfz47_1 := blk_frozen BK235.out 1
              have hfz47_2 := blk_frozen BK235.out 2
              have hfz47_3 := blk_frozen BK235.out 3
              go_wp2_with (first | ((with_reducible refine gate_callee (f := 18) rfl ?_); refine goesL_ (some 79) rfl rfl Try.func18 (by kernel_rfl) rfl #[.int .i64 x10_2, .int .i64 t245, .int .i64 (wrap64 (a0_3 - x12_2))] rfl (by (try simp only [List.map_toArray, List.map_cons, List.map_nil]); first | done | rfl | (simp only [List.length_drop, List.length_take]; rfl)) ?_; (with_reducible refine (lombardref08_Level.calls kj25 x10_2 t245 (wrap64 (a0_3 - x12_2)) t250 t251 _ A45.out).mono ?_); rintro e w48 ⟨rfl, hb⟩; refine ⟨_, rfl, ?_⟩; have n0_ := Aside0.mk (Kd.R_below (by (with_reducible repeat (first | apply Kd.R_alloc | apply Kd.R_drewN | apply Kd.R_drew)); exact HO_7.out) hb); have n1_ := Aside0.mk (Kd.R_below (by (with_reducible repeat (first | apply Kd.R_alloc | apply Kd.R_drewN | apply Kd.R_drew)); exact HO_9.out) hb); have n2_ := Aside0.mk (blk_below (g := gb235) (o := .cells #[.int .i64 a0_0, .int .i64 a0_1, .slice A0_2 l0_2.length c0_2, .int .i64 a0_3] 24 (0, 0)) (by (with_reducible repeat (first | refine blk_drewN ?_ _ | refine blk_drew ?_ | refine blk_alloc ?_ _)); exact BK235.out) hb); have n3_ := Aside0.mk (blk_below (g := gb246) (o := .cells #[.int .i64 t247, .int .i64 0, .int .i64 0, .int .i64 0] 59 (0, 0)) (by (with_reducible repeat (first | refine blk_drewN ?_ _ | refine blk_drew ?_ | refine blk_alloc ?_ _)); exact BK246.out) hb); have n4_ := Aside0.mk (below_step (by repeat (first | (with_reducible first | exact HB.out | apply below_alloc | apply pw_below_drewN | apply below_drew1 | refine below_set ?_ GE235.out | refine below_set ?_ GE246.out) | exact HB.out)) hb); clear HO_7; clear HO_9; clear BK235; clear BK246; clear HB; have HO_7 := n0_; have HO_9 := n1_; have BK235 := n2_; have BK246 := n3_; have HB := n4_; clear n0_ n1_ n2_ n3_ n4_; (try clear hb); (try clear hb2); (try clear hk); (try clear hi)))
              go_meet
              case rel => exact ⟨_, (t250), (by first | rfl | (simp; done) | (simp [*]; done)), H', ⟨by have := HK1.out; have := HK2.out; have := HJ25.out; first | omega | exact Nat.le_refl _⟩, ⟨by (try simp only [hl5_1]); (with_reducible repeat (first | apply Kd.R_alloc | apply Kd.R_drewN | apply Kd.R_drew)); exact HO_7.out⟩, ⟨by (try simp only [hl5_1]); (with_reducible repeat (first | apply Kd.R_alloc | apply Kd.R_drewN | apply Kd.R_drew)); exact HO_9.out⟩, ⟨by (try simp only [hl5_1]); (with_reducible repeat (first | refine blk_drewN ?_ _ | refine blk_drew ?_ | refine blk_alloc ?_ _)); exact BK235.out⟩, ⟨by (try simp only [hl5_1]); (with_reducible repeat (first | refine blk_drewN ?_ _ | refine blk_drew ?_ | refine blk_alloc ?_ _)); exact BK246.out⟩, ⟨by repeat (first | (with_reducible first | exact HB.out | apply below_alloc | apply pw_below_drewN | apply below_drew1 | refine below_set ?_ GE235.out | refine below_set ?_ GE246.out) | exact HB.out)⟩⟩
             ·replace c44 := Bool.eq_false_iff.mpr c44
              subst c44
              have H1 : (lombardref08_Build.j3 kj25 t241 x9_2 x10_2 x11_2 x12_2 a0_0 a0_1 l0_2 a0_3 t247 0 0 0) = some (r1, r2) := by rw [if_neg (show ¬ (false = true) by decide)] at H; exact H
              clear H
              have H := H1
              clear H1
              have H' := Aside0.mk H
              clear H
              go_wp2
              go_meet
              case rel => exact ⟨_, (x11_2), (by first | rfl | (simp; done) | (simp [*]; done)), H', ⟨by have := HK1.out; have := HK2.out; have := HJ25.out; first | omega | exact Nat.le_refl _⟩, ⟨by (try simp only [hl5_1]); (with_reducible repeat (first | apply Kd.R_alloc | apply Kd.R_drewN | apply Kd.R_drew)); exact HO_7.out⟩, ⟨by (try simp only [hl5_1]); (with_reducible repeat (first | apply Kd.R_alloc | apply Kd.R_drewN | apply Kd.R_drew)); exact HO_9.out⟩, ⟨by (try simp only [hl5_1]); (with_reducible repeat (first | refine blk_drewN ?_ _ | refine blk_drew ?_ | refine blk_alloc ?_ _)); exact BK235.out⟩, ⟨by (try simp only [hl5_1]); (with_reducible repeat (first | refine blk_drewN ?_ _ | refine blk_drew ?_ | refine blk_alloc ?_ _)); exact BK246.out⟩, ⟨by repeat (first | (with_reducible first | exact HB.out | apply below_alloc | apply pw_below_drewN | apply below_drew1 | refine below_set ?_ GE235.out | refine below_set ?_ GE246.out) | exact HB.out)⟩⟩
            case rest =>
             clear HC43
             repeat first | clear c1 | clear p1 | clear q1 | clear hx1 | clear hf1 | clear c2 | clear p2 | clear c3 | clear c3b0 | clear c3b1 | clear c4 | clear c4b0 | clear c4b1 | clear c5 | clear c5b0 | clear c5b1 | clear p6 | clear c12 | clear c13 | clear c13b0 | clear c14 | clear c14b0 | clear c15 | clear c15b0 | clear c16 | clear p16 | clear q16 | clear hx16 | clear hf16 | clear c18 | clear c23 | clear c23b0 | clear c28 | clear c29 | clear c30 | clear c31 | clear c33 | clear c33b0 | clear c33b1 | clear c34 | clear c34b0 | clear c34b1 | clear c35 | clear c38 | clear c41 | clear c44 | clear c46 | clear hcz20_0 | clear hcz20_1 | clear hcz20_2 | clear hcz20_3 | clear hcz22_0 | clear hcz22_1 | clear hcz22_2 | clear hcz22_3 | clear hcz27_0 | clear hcz27_1 | clear hcz27_2 | clear hcz27_3 | clear hcz32_0 | clear hcz32_1 | clear hcz32_2 | clear hcz32_3 | clear hcz36_0 | clear hcz36_1 | clear hcz36_2 | clear hcz36_3 | clear hcz39_0 | clear hcz39_1 | clear hcz39_2 | clear hcz39_3 | clear hcz42_0 | clear hcz42_1 | clear hcz42_2 | clear hcz42_3 | clear hcz47_0 | clear hcz47_1 | clear hcz47_2 | clear hcz47_3 | clear hcz7_0 | clear hcz7_1 | clear hcz7_2 | clear hcz7_3 | clear hcz9_0 | clear hcz9_1 | clear hcz9_2 | clear hcz9_3 | clear hfz20_0 | clear hfz20_1 | clear hfz20_2 | clear hfz20_3 | clear hfz22_0 | clear hfz22_1 | clear hfz22_2 | clear hfz22_3 | clear hfz27_0 | clear hfz27_1 | clear hfz27_2 | clear hfz27_3 | clear hfz32_0 | clear hfz32_1 | clear hfz32_2 | clear hfz32_3 | clear hfz36_0 | clear hfz36_1 | clear hfz36_2 | clear hfz36_3 | clear hfz39_0 | clear hfz39_1 | clear hfz39_2 | clear hfz39_3 | clear hfz42_0 | clear hfz42_1 | clear hfz42_2 | clear hfz42_3 | clear hfz47_0 | clear hfz47_1 | clear hfz47_2 | clear hfz47_3 | clear hfz7_0 | clear hfz7_1 | clear hfz7_2 | clear hfz7_3 | clear hfz9_0 | clear hfz9_1 | clear hfz9_2 | clear hfz9_3 | clear hx16_0 | clear p1 | clear p16 | clear p2 | clear p6 | clear q1 | clear q16
             obtain ⟨kq, x11_42, rfl, HA, HJ42, HO_7, HO_9, BK235, BK246, HB⟩ := hcut
             cases kq with
             | zero => exact absurd HA.out (by simp [lombardref08_Build.j3])
             | succ kj42 =>
              have H := HA.out
              clear HA
              simp only [lombardref08_Build.j3] at H
              by_cases c49 : x12_2 = (wrap64 (a0_3 - 1))
              ·rw [if_pos c49] at H
               have c49b0 : (x12_2 == (wrap64 (a0_3 - 1))) = true := beq_iff_eq.mpr c49
               have c49b1 : (x12_2 != (wrap64 (a0_3 - 1))) = false := bne_eq_false_iff_eq.mpr c49
               clear c49
               have HC50 := Aside0.mk H
               clear H
               have hnb51 := NB235_246.out
               have hnc51 := NB246_235.out
               have hcz52_0 := (blk_cell BK235.out 0).trans rfl
               have hcz52_1 := (blk_cell BK235.out 1).trans rfl
               have hcz52_2 := (blk_cell BK235.out 2).trans rfl
               have hcz52_3 := (blk_cell BK235.out 3).trans rfl
               have hfz52_0 := blk_frozen BK235.out 0
               have hfz52_1 := blk_frozen BK235.out 1
               have hfz52_2 := blk_frozen BK235.out 2
               have hfz52_3 := blk_frozen BK235.out 3
               have hcz53_0 := (blk_cell BK246.out 0).trans rfl
               have hcz53_1 := (blk_cell BK246.out 1).trans rfl
               have hcz53_2 := (blk_cell BK246.out 2).trans rfl
               have hcz53_3 := (blk_cell BK246.out 3).trans rfl
               have hfz53_0 := blk_frozen BK246.out 0
               have hfz53_1 := blk_frozen BK246.out 1
               have hfz53_2 := blk_frozen BK246.out 2
               have hfz53_3 := blk_frozen BK246.out 3
               go_upto_region 31 with (fail)
               have H := HC50.out
               clear HC50
               by_cases c54 : (wrap64 (x10_2 - (wrap64 ((wrap64 (x10_2 + t247)) - t247)))) > 10000000000000
               ·rw [if_pos c54] at H
                have c54b0 : decide (10000000000000 < (wrap64 (x10_2 - (wrap64 ((wrap64 (x10_2 + t247)) - t247))))) = true := decide_eq_true c54
                clear c54
                simp only [Option.some.injEq, Prod.mk.injEq] at H
                obtain ⟨rfl, rfl⟩ := H
                have hnb55 := NB246_235.out
                have hnc55 := NB235_246.out
                have hcz56_0 := (blk_cell BK246.out 0).trans rfl
                have hcz56_1 := (blk_cell BK246.out 1).trans rfl
                have hcz56_2 := (blk_cell BK246.out 2).trans rfl
                have hcz56_3 := (blk_cell BK246.out 3).trans rfl
                have hfz56_0 := blk_frozen BK246.out 0
                have hfz56_1 := blk_frozen BK246.out 1
                have hfz56_2 := blk_frozen BK246.out 2
                have hfz56_3 := blk_frozen BK246.out 3
                go_wp2
                go_ret2
                exact ⟨_, by first | rfl | (simp [errW_none, errW_some] <;> rfl) | (simp [*, errW_none, errW_some] <;> rfl), by first | exact Kd.R_nil _ _ _ _ _ | exact Kd.N_nil _ _ _ _ _ | exact Kd.V_nil _ _ _ _ _ | exact Kd.Q_nil _ _ _ _ _ | exact Kd.S_nil _ _ _ _ _, by repeat (first | (with_reducible first | exact HB.out | apply below_alloc | apply pw_below_drewN | apply below_drew1 | refine below_set ?_ GE235.out | refine below_set ?_ GE246.out) | exact HB.out)⟩
               ·rw [if_neg c54] at H
                have c54b0 : decide (10000000000000 < (wrap64 (x10_2 - (wrap64 ((wrap64 (x10_2 + t247)) - t247))))) = false := decide_eq_false c54
                clear c54
                by_cases c57 : (wrap64 (x10_2 + t247)) > 10000000000000
                ·rw [if_pos c57] at H
                 have c57b0 : decide (10000000000000 < (wrap64 (x10_2 + t247))) = true := decide_eq_true c57
                 clear c57
                 simp only [Option.some.injEq, Prod.mk.injEq] at H
                 obtain ⟨rfl, rfl⟩ := H
                 have hnb58 := NB246_235.out
                 have hnc58 := NB235_246.out
                 have hcz59_0 := (blk_cell BK246.out 0).trans rfl
                 have hcz59_1 := (blk_cell BK246.out 1).trans rfl
                 have hcz59_2 := (blk_cell BK246.out 2).trans rfl
                 have hcz59_3 := (blk_cell BK246.out 3).trans rfl
                 have hfz59_0 := blk_frozen BK246.out 0
                 have hfz59_1 := blk_frozen BK246.out 1
                 have hfz59_2 := blk_frozen BK246.out 2
                 have hfz59_3 := blk_frozen BK246.out 3
                 go_wp2
                 go_ret2
                 exact ⟨_, by first | rfl | (simp [errW_none, errW_some] <;> rfl) | (simp [*, errW_none, errW_some] <;> rfl), by first | exact Kd.R_nil _ _ _ _ _ | exact Kd.N_nil _ _ _ _ _ | exact Kd.V_nil _ _ _ _ _ | exact Kd.Q_nil _ _ _ _ _ | exact Kd.S_nil _ _ _ _ _, by repeat (first | (with_reducible first | exact HB.out | apply below_alloc | apply pw_below_drewN | apply below_drew1 | refine below_set ?_ GE235.out | refine below_set ?_ GE246.out) | exact HB.out)⟩
                ·rw [if_neg c57] at H
                 have c57b0 : decide (10000000000000 < (wrap64 (x10_2 + t247))) = false := decide_eq_false c57
                 clear c57
                 by_cases c60 : x9_2.length < 4398046511104
                 ·rw [if_pos c60] at H
                  have LMc60 := Aside0.mk c60
                  clear c60
                  obtain ⟨y252, hy252⟩ : ∃ y_ : List (S59), y_ = (x9_2 ++ [(⟨t247, wrap64 (x10_2 + t247), wrap64 ((wrap64 (x10_2 + t247)) - t247), wrap64 (x10_2 - (wrap64 ((wrap64 (x10_2 + t247)) - t247)))⟩ : S59)]) := ⟨_, rfl⟩
                  replace H : (lombardref08_Build.l1 kj42 t241 y252 (wrap64 (x10_2 - (wrap64 ((wrap64 (x10_2 + t247)) - t247)))) x11_42 (wrap64 (x12_2 + 1)) a0_0 a0_1 l0_2 a0_3) = some (r1, r2) := by first | (rw [hy252]; with_reducible exact H) | (have H2_ := (Option.bind_some _ _).symm.trans H; rw [hy252]; with_reducible exact H2_) | (have H2_ := (Option.bind_some _ _).symm.trans H; with_reducible exact H2_) | with_reducible exact H | (rw [hy252]; exact H) | exact H
                  have Ny252 := Aside0.mk hy252
                  clear hy252
                  have H' := Aside0.mk H
                  clear H
                  have hnb61 := NB246_235.out
                  have hnc61 := NB235_246.out
                  have hcz62_0 := (blk_cell BK246.out 0).trans rfl
                  have hcz62_1 := (blk_cell BK246.out 1).trans rfl
                  have hcz62_2 := (blk_cell BK246.out 2).trans rfl
                  have hcz62_3 := (blk_cell BK246.out 3).trans rfl
                  have hfz62_0 := blk_frozen BK246.out 0
                  have hfz62_1 := blk_frozen BK246.out 1
                  have hfz62_2 := blk_frozen BK246.out 2
                  have hfz62_3 := blk_frozen BK246.out 3
                  go_wp2_with (first | ((with_reducible refine gate_builtin (b := .append) (xs := #[.tmp 144, .tmp 146]) rfl ?_); at_builtin; refine Kd.R_append k59 (w0 := w) w.heap.size rfl (.tmp 144) (.tmp 146) 32 59 (.agg #[(.int .i64 0), (.int .i64 0), (.int .i64 0), (.int .i64 0)]) 32 rfl Try.underlying32 info59 rfl (by decide) (by omega) u9 x9_2 (⟨t247, wrap64 (x10_2 + t247), wrap64 ((wrap64 (x10_2 + t247)) - t247), wrap64 (x10_2 - (wrap64 ((wrap64 (x10_2 + t247)) - t247)))⟩ : S59) [.int .i64 t247, .int .i64 (wrap64 (x10_2 + t247)), .int .i64 (wrap64 ((wrap64 (x10_2 + t247)) - t247)), .int .i64 (wrap64 (x10_2 - (wrap64 ((wrap64 (x10_2 + t247)) - t247))))] (fun k_ => k_ ≠ gb246) (fun _ => False) rfl (by first | (go_simp; done) | (go_simp; rfl)) ?aP (fun _ hk => hk.elim) ?aF ?aO ?aB ?aS ?aL ?_; (case aP => exact k59_mkM _ _ _ (⟨t247, wrap64 (x10_2 + t247), wrap64 ((wrap64 (x10_2 + t247)) - t247), wrap64 (x10_2 - (wrap64 ((wrap64 (x10_2 + t247)) - t247)))⟩ : S59)); (case aB => exact (by repeat (first | (with_reducible first | exact HB.out | apply below_alloc | apply pw_below_drewN | apply below_drew1 | refine below_set ?_ GE235.out | refine below_set ?_ GE246.out) | exact HB.out))); (case aF => exact (fun k_ hk => Kd.freshB (g := gb246) (o := .cells #[.int .i64 t247, .int .i64 (wrap64 (x10_2 + t247)), .int .i64 (wrap64 ((wrap64 (x10_2 + t247)) - t247)), .int .i64 (wrap64 (x10_2 - (wrap64 ((wrap64 (x10_2 + t247)) - t247))))] 59 (0, 0)) (by (with_reducible repeat (first | refine blk_drewN ?_ _ | refine blk_drew ?_ | refine blk_alloc ?_ _)); refine blk_put (cs := #[.int .i64 t247, .int .i64 (wrap64 (x10_2 + t247)), .int .i64 (wrap64 ((wrap64 (x10_2 + t247)) - t247)), .int .i64 0]) ?_ 3 _ rfl; (with_reducible repeat (first | refine blk_drewN ?_ _ | refine blk_drew ?_ | refine blk_alloc ?_ _)); refine blk_put (cs := #[.int .i64 t247, .int .i64 (wrap64 (x10_2 + t247)), .int .i64 0, .int .i64 0]) ?_ 2 _ rfl; (with_reducible repeat (first | refine blk_drewN ?_ _ | refine blk_drew ?_ | refine blk_alloc ?_ _)); refine blk_put (cs := #[.int .i64 t247, .int .i64 0, .int .i64 0, .int .i64 0]) ?_ 1 _ rfl; (with_reducible repeat (first | refine blk_drewN ?_ _ | refine blk_drew ?_ | refine blk_alloc ?_ _)); exact BK246.out) k_ hk)); (case aO => exact (by (with_reducible repeat (first | apply Kd.R_alloc | apply Kd.R_drewN | apply Kd.R_drew)); exact Kd.R_mono (Kd.R_far (p := ⟨gb246, 3, none⟩) (Kd.R_far (p := ⟨gb246, 2, none⟩) (Kd.R_far (p := ⟨gb246, 1, none⟩) (Kd.R_mono HO_9.out (fun k_ hk => (⟨hk, hk⟩ : _ ∧ k_ ≠ gb246))) (fun _ hk => hk.2) (.int .i64 (wrap64 (x10_2 + t247)))) (fun _ hk => hk.2) (.int .i64 (wrap64 ((wrap64 (x10_2 + t247)) - t247)))) (fun _ hk => hk.2) (.int .i64 (wrap64 (x10_2 - (wrap64 ((wrap64 (x10_2 + t247)) - t247)))))) (fun _ hk => hk.1))); (case aS => exact (below_size (by repeat (first | (with_reducible first | exact HB.out | apply below_alloc | apply pw_below_drewN | apply below_drew1 | refine below_set ?_ GE235.out | refine below_set ?_ GE246.out) | exact HB.out)))); (case aL => have := LMc60.out; omega); intro v253 w63 ho hb hg hat; rw [← Ny252.out] at ho; have n0_ := Aside0.mk (Kd.R_over' (by (with_reducible repeat (first | apply Kd.R_alloc | apply Kd.R_drewN | apply Kd.R_drew)); exact (Kd.R_mono (Kd.R_far (p := ⟨gb246, 3, none⟩) (Kd.R_far (p := ⟨gb246, 2, none⟩) (Kd.R_far (p := ⟨gb246, 1, none⟩) (Kd.R_types HO_7.out BK246.out (by decide)) (fun _ hk => hk.2) (.int .i64 (wrap64 (x10_2 + t247)))) (fun _ hk => hk.2) (.int .i64 (wrap64 ((wrap64 (x10_2 + t247)) - t247)))) (fun _ hk => hk.2) (.int .i64 (wrap64 (x10_2 - (wrap64 ((wrap64 (x10_2 + t247)) - t247)))))) (fun _ h_ => h_.1))) (Kd.R_typed (by (with_reducible repeat (first | apply Kd.R_alloc | apply Kd.R_drewN | apply Kd.R_drew)); exact (Kd.R_mono (Kd.R_far (p := ⟨gb246, 3, none⟩) (Kd.R_far (p := ⟨gb246, 2, none⟩) (Kd.R_far (p := ⟨gb246, 1, none⟩) (Kd.R_mono HO_9.out (fun k_ hk => (⟨hk, hk⟩ : _ ∧ k_ ≠ gb246))) (fun _ hk => hk.2) (.int .i64 (wrap64 (x10_2 + t247)))) (fun _ hk => hk.2) (.int .i64 (wrap64 ((wrap64 (x10_2 + t247)) - t247)))) (fun _ hk => hk.2) (.int .i64 (wrap64 (x10_2 - (wrap64 ((wrap64 (x10_2 + t247)) - t247)))))) (fun _ h_ => h_.1)))) (by decide) hg); have n1_ := Aside0.mk (blk_grown (g := gb235) (o := .cells #[.int .i64 a0_0, .int .i64 a0_1, .slice A0_2 l0_2.length c0_2, .int .i64 a0_3] 24 (0, 0)) (by (with_reducible repeat (first | refine blk_drewN ?_ _ | refine blk_drew ?_ | refine blk_alloc ?_ _)); refine blk_far ?_ NB235_246.out _; (with_reducible repeat (first | refine blk_drewN ?_ _ | refine blk_drew ?_ | refine blk_alloc ?_ _)); refine blk_far ?_ NB235_246.out _; (with_reducible repeat (first | refine blk_drewN ?_ _ | refine blk_drew ?_ | refine blk_alloc ?_ _)); refine blk_far ?_ NB235_246.out _; (with_reducible repeat (first | refine blk_drewN ?_ _ | refine blk_drew ?_ | refine blk_alloc ?_ _)); exact BK235.out) hg (Kd.R_ne HO_9.out BK235.out (by decide))); have n2_ := Aside0.mk (blk_grown (g := gb246) (o := .cells #[.int .i64 t247, .int .i64 (wrap64 (x10_2 + t247)), .int .i64 (wrap64 ((wrap64 (x10_2 + t247)) - t247)), .int .i64 (wrap64 (x10_2 - (wrap64 ((wrap64 (x10_2 + t247)) - t247))))] 59 (0, 0)) (by (with_reducible repeat (first | refine blk_drewN ?_ _ | refine blk_drew ?_ | refine blk_alloc ?_ _)); refine blk_put (cs := #[.int .i64 t247, .int .i64 (wrap64 (x10_2 + t247)), .int .i64 (wrap64 ((wrap64 (x10_2 + t247)) - t247)), .int .i64 0]) ?_ 3 _ rfl; (with_reducible repeat (first | refine blk_drewN ?_ _ | refine blk_drew ?_ | refine blk_alloc ?_ _)); refine blk_put (cs := #[.int .i64 t247, .int .i64 (wrap64 (x10_2 + t247)), .int .i64 0, .int .i64 0]) ?_ 2 _ rfl; (with_reducible repeat (first | refine blk_drewN ?_ _ | refine blk_drew ?_ | refine blk_alloc ?_ _)); refine blk_put (cs := #[.int .i64 t247, .int .i64 0, .int .i64 0, .int .i64 0]) ?_ 1 _ rfl; (with_reducible repeat (first | refine blk_drewN ?_ _ | refine blk_drew ?_ | refine blk_alloc ?_ _)); exact BK246.out) hg (Kd.R_away HO_9.out (fun _ hk => hk))); have n3_ := Aside0.mk (hb); have n4_ := Aside0.mk (ho); clear HO_7; clear BK235; clear BK246; clear HB; clear HO_9; have HO_7 := n0_; have BK235 := n1_; have BK246 := n2_; have HB := n3_; have HO254 := n4_; clear n0_ n1_ n2_ n3_ n4_; clear ho hb hg hat))
                  go_roundg kj42
                  case measure => have := HK1.out; have := HK2.out; have := HJ25.out; have := HJ42.out; omega
                  case rel => exact ⟨(y252), (wrap64 (x10_2 - (wrap64 ((wrap64 (x10_2 + t247)) - t247)))), (x11_42), (wrap64 (x12_2 + 1)), (by first | rfl | (simp; done) | (simp [*]; done)), (by first | rfl | (simp; done) | (simp [*]; done)), (by first | rfl | (simp; done) | (simp [*]; done)), H', ⟨by have := HK1.out; have := HK2.out; have := HJ25.out; have := HJ42.out; omega⟩, ⟨by (try simp only [hl5_1]); (with_reducible repeat (first | apply Kd.R_alloc | apply Kd.R_drewN | apply Kd.R_drew)); exact HO_7.out⟩, ⟨by (try simp only [hl5_1]); (with_reducible repeat (first | apply Kd.R_alloc | apply Kd.R_drewN | apply Kd.R_drew)); exact Kd.R_mono HO254.out (fun _ hk => trivial)⟩, ⟨by (try simp only [hl5_1]); (with_reducible repeat (first | refine blk_drewN ?_ _ | refine blk_drew ?_ | refine blk_alloc ?_ _)); exact BK235.out⟩, ⟨by repeat (first | (with_reducible first | exact HB.out | apply below_alloc | apply pw_below_drewN | apply below_drew1 | refine below_set ?_ GE235.out | refine below_set ?_ GE246.out) | exact HB.out)⟩⟩
                 ·rw [if_neg c60] at H
                  exact absurd H (by simp)
              ·rw [if_neg c49] at H
               have c49b0 : (x12_2 == (wrap64 (a0_3 - 1))) = false := beq_eq_false_iff_ne.mpr c49
               have c49b1 : (x12_2 != (wrap64 (a0_3 - 1))) = true := bne_iff_ne.mpr c49
               by_cases c64 : a0_0 = 1
               ·rw [if_pos c64] at H
                have c64b0 : (a0_0 == 1) = true := beq_iff_eq.mpr c64
                have c64b1 : (a0_0 != 1) = false := bne_eq_false_iff_eq.mpr c64
                clear c64
                obtain ⟨ji65, hji65⟩ : ∃ j_ : Int, (mn x11_42 (wrap64 (x10_2 + t247))) = j_ := ⟨_, rfl⟩
                replace H : (if (wrap64 (x10_2 - (wrap64 ((ji65) - t247)))) > 10000000000000 then (some (([] : List (S59)), 3)) else (if (ji65) > 10000000000000 then (some (([] : List (S59)), 3)) else (if x9_2.length < 4398046511104 then (lombardref08_Build.l1 kj42 t241 (x9_2 ++ [(⟨t247, ji65, wrap64 ((ji65) - t247), wrap64 (x10_2 - (wrap64 ((ji65) - t247)))⟩ : S59)]) (wrap64 (x10_2 - (wrap64 ((ji65) - t247)))) x11_42 (wrap64 (x12_2 + 1)) a0_0 a0_1 l0_2 a0_3) else (none)))) = some (r1, r2) := by first | (rw [hji65] at H; exact H) | (simp only [hji65] at H ⊢; exact H)
                have hji65_ : (if (wrap64 (x10_2 + t247)) < x11_42 then (wrap64 (x10_2 + t247)) else x11_42) = ji65 := hji65
                have HC66 := Aside0.mk H
                clear H
                have hnb67 := NB235_246.out
                have hnc67 := NB246_235.out
                have hcz68_0 := (blk_cell BK235.out 0).trans rfl
                have hcz68_1 := (blk_cell BK235.out 1).trans rfl
                have hcz68_2 := (blk_cell BK235.out 2).trans rfl
                have hcz68_3 := (blk_cell BK235.out 3).trans rfl
                have hfz68_0 := blk_frozen BK235.out 0
                have hfz68_1 := blk_frozen BK235.out 1
                have hfz68_2 := blk_frozen BK235.out 2
                have hfz68_3 := blk_frozen BK235.out 3
                have hcz69_0 := (blk_cell BK246.out 0).trans rfl
                have hcz69_1 := (blk_cell BK246.out 1).trans rfl
                have hcz69_2 := (blk_cell BK246.out 2).trans rfl
                have hcz69_3 := (blk_cell BK246.out 3).trans rfl
                have hfz69_0 := blk_frozen BK246.out 0
                have hfz69_1 := blk_frozen BK246.out 1
                have hfz69_2 := blk_frozen BK246.out 2
                have hfz69_3 := blk_frozen BK246.out 3
                go_upto_region 31 with (fail)
                have H := HC66.out
                clear HC66
                by_cases c70 : (wrap64 (x10_2 - (wrap64 ((ji65) - t247)))) > 10000000000000
                ·rw [if_pos c70] at H
                 have c70b0 : decide (10000000000000 < (wrap64 (x10_2 - (wrap64 ((ji65) - t247))))) = true := decide_eq_true c70
                 clear c70
                 simp only [Option.some.injEq, Prod.mk.injEq] at H
                 obtain ⟨rfl, rfl⟩ := H
                 have hnb71 := NB246_235.out
                 have hnc71 := NB235_246.out
                 have hcz72_0 := (blk_cell BK246.out 0).trans rfl
                 have hcz72_1 := (blk_cell BK246.out 1).trans rfl
                 have hcz72_2 := (blk_cell BK246.out 2).trans rfl
                 have hcz72_3 := (blk_cell BK246.out 3).trans rfl
                 have hfz72_0 := blk_frozen BK246.out 0
                 have hfz72_1 := blk_frozen BK246.out 1
                 have hfz72_2 := blk_frozen BK246.out 2
                 have hfz72_3 := blk_frozen BK246.out 3
                 go_wp2
                 go_ret2
                 exact ⟨_, by first | rfl | (simp [errW_none, errW_some] <;> rfl) | (simp only [← hji65]; first | rfl | (simp [errW_none, errW_some] <;> rfl)) | (simp [*, errW_none, errW_some] <;> rfl), by first | exact Kd.R_nil _ _ _ _ _ | exact Kd.N_nil _ _ _ _ _ | exact Kd.V_nil _ _ _ _ _ | exact Kd.Q_nil _ _ _ _ _ | exact Kd.S_nil _ _ _ _ _, by repeat (first | (with_reducible first | exact HB.out | apply below_alloc | apply pw_below_drewN | apply below_drew1 | refine below_set ?_ GE235.out | refine below_set ?_ GE246.out) | exact HB.out)⟩
                ·rw [if_neg c70] at H
                 have c70b0 : decide (10000000000000 < (wrap64 (x10_2 - (wrap64 ((ji65) - t247))))) = false := decide_eq_false c70
                 clear c70
                 by_cases c73 : (ji65) > 10000000000000
                 ·rw [if_pos c73] at H
                  have c73b0 : decide (10000000000000 < (ji65)) = true := decide_eq_true c73
                  clear c73
                  simp only [Option.some.injEq, Prod.mk.injEq] at H
                  obtain ⟨rfl, rfl⟩ := H
                  have hnb74 := NB246_235.out
                  have hnc74 := NB235_246.out
                  have hcz75_0 := (blk_cell BK246.out 0).trans rfl
                  have hcz75_1 := (blk_cell BK246.out 1).trans rfl
                  have hcz75_2 := (blk_cell BK246.out 2).trans rfl
                  have hcz75_3 := (blk_cell BK246.out 3).trans rfl
                  have hfz75_0 := blk_frozen BK246.out 0
                  have hfz75_1 := blk_frozen BK246.out 1
                  have hfz75_2 := blk_frozen BK246.out 2
                  have hfz75_3 := blk_frozen BK246.out 3
                  go_wp2
                  go_ret2
                  exact ⟨_, by first | rfl | (simp [errW_none, errW_some] <;> rfl) | (simp only [← hji65]; first | rfl | (simp [errW_none, errW_some] <;> rfl)) | (simp [*, errW_none, errW_some] <;> rfl), by first | exact Kd.R_nil _ _ _ _ _ | exact Kd.N_nil _ _ _ _ _ | exact Kd.V_nil _ _ _ _ _ | exact Kd.Q_nil _ _ _ _ _ | exact Kd.S_nil _ _ _ _ _, by repeat (first | (with_reducible first | exact HB.out | apply below_alloc | apply pw_below_drewN | apply below_drew1 | refine below_set ?_ GE235.out | refine below_set ?_ GE246.out) | exact HB.out)⟩
                 ·rw [if_neg c73] at H
                  have c73b0 : decide (10000000000000 < (ji65)) = false := decide_eq_false c73
                  clear c73
                  by_cases c76 : x9_2.length < 4398046511104
                  ·rw [if_pos c76] at H
                   have LMc76 := Aside0.mk c76
                   clear c76
                   obtain ⟨y255, hy255⟩ : ∃ y_ : List (S59), y_ = (x9_2 ++ [(⟨t247, ji65, wrap64 ((ji65) - t247), wrap64 (x10_2 - (wrap64 ((ji65) - t247)))⟩ : S59)]) := ⟨_, rfl⟩
                   replace H : (lombardref08_Build.l1 kj42 t241 y255 (wrap64 (x10_2 - (wrap64 ((ji65) - t247)))) x11_42 (wrap64 (x12_2 + 1)) a0_0 a0_1 l0_2 a0_3) = some (r1, r2) := by first | (rw [hy255]; with_reducible exact H) | (have H2_ := (Option.bind_some _ _).symm.trans H; rw [hy255]; with_reducible exact H2_) | (have H2_ := (Option.bind_some _ _).symm.trans H; with_reducible exact H2_) | with_reducible exact H | (rw [hy255]; exact H) | exact H
                   have Ny255 := Aside0.mk hy255
                   clear hy255
                   have H' := Aside0.mk H
                   clear H
                   have hnb77 := NB246_235.out
                   have hnc77 := NB235_246.out
                   have hcz78_0 := (blk_cell BK246.out 0).trans rfl
                   have hcz78_1 := (blk_cell BK246.out 1).trans rfl
                   have hcz78_2 := (blk_cell BK246.out 2).trans rfl
                   have hcz78_3 := (blk_cell BK246.out 3).trans rfl
                   have hfz78_0 := blk_frozen BK246.out 0
                   have hfz78_1 := blk_frozen BK246.out 1
                   have hfz78_2 := blk_frozen BK246.out 2
                   have hfz78_3 := blk_frozen BK246.out 3
                   go_wp2_with (first | ((with_reducible refine gate_builtin (b := .append) (xs := #[.tmp 144, .tmp 146]) rfl ?_); at_builtin; refine Kd.R_append k59 (w0 := w) w.heap.size rfl (.tmp 144) (.tmp 146) 32 59 (.agg #[(.int .i64 0), (.int .i64 0), (.int .i64 0), (.int .i64 0)]) 32 rfl Try.underlying32 info59 rfl (by decide) (by omega) u9 x9_2 (⟨t247, ji65, wrap64 ((ji65) - t247), wrap64 (x10_2 - (wrap64 ((ji65) - t247)))⟩ : S59) [.int .i64 t247, .int .i64 ji65, .int .i64 (wrap64 ((ji65) - t247)), .int .i64 (wrap64 (x10_2 - (wrap64 ((ji65) - t247))))] (fun k_ => k_ ≠ gb246) (fun _ => False) rfl (by first | (go_simp; done) | (go_simp; rfl)) ?aP (fun _ hk => hk.elim) ?aF ?aO ?aB ?aS ?aL ?_; (case aP => exact k59_mkM _ _ _ (⟨t247, ji65, wrap64 ((ji65) - t247), wrap64 (x10_2 - (wrap64 ((ji65) - t247)))⟩ : S59)); (case aB => exact (by repeat (first | (with_reducible first | exact HB.out | apply below_alloc | apply pw_below_drewN | apply below_drew1 | refine below_set ?_ GE235.out | refine below_set ?_ GE246.out) | exact HB.out))); (case aF => exact (fun k_ hk => Kd.freshB (g := gb246) (o := .cells #[.int .i64 t247, .int .i64 ji65, .int .i64 (wrap64 ((ji65) - t247)), .int .i64 (wrap64 (x10_2 - (wrap64 ((ji65) - t247))))] 59 (0, 0)) (by (with_reducible repeat (first | refine blk_drewN ?_ _ | refine blk_drew ?_ | refine blk_alloc ?_ _)); refine blk_put (cs := #[.int .i64 t247, .int .i64 ji65, .int .i64 (wrap64 ((ji65) - t247)), .int .i64 0]) ?_ 3 _ rfl; (with_reducible repeat (first | refine blk_drewN ?_ _ | refine blk_drew ?_ | refine blk_alloc ?_ _)); refine blk_put (cs := #[.int .i64 t247, .int .i64 ji65, .int .i64 0, .int .i64 0]) ?_ 2 _ rfl; (with_reducible repeat (first | refine blk_drewN ?_ _ | refine blk_drew ?_ | refine blk_alloc ?_ _)); refine blk_put (cs := #[.int .i64 t247, .int .i64 0, .int .i64 0, .int .i64 0]) ?_ 1 _ rfl; (with_reducible repeat (first | refine blk_drewN ?_ _ | refine blk_drew ?_ | refine blk_alloc ?_ _)); exact BK246.out) k_ hk)); (case aO => exact (by (with_reducible repeat (first | apply Kd.R_alloc | apply Kd.R_drewN | apply Kd.R_drew)); exact Kd.R_mono (Kd.R_far (p := ⟨gb246, 3, none⟩) (Kd.R_far (p := ⟨gb246, 2, none⟩) (Kd.R_far (p := ⟨gb246, 1, none⟩) (Kd.R_mono HO_9.out (fun k_ hk => (⟨hk, hk⟩ : _ ∧ k_ ≠ gb246))) (fun _ hk => hk.2) (.int .i64 ji65)) (fun _ hk => hk.2) (.int .i64 (wrap64 ((ji65) - t247)))) (fun _ hk => hk.2) (.int .i64 (wrap64 (x10_2 - (wrap64 ((ji65) - t247)))))) (fun _ hk => hk.1))); (case aS => exact (below_size (by repeat (first | (with_reducible first | exact HB.out | apply below_alloc | apply pw_below_drewN | apply below_drew1 | refine below_set ?_ GE235.out | refine below_set ?_ GE246.out) | exact HB.out)))); (case aL => have := LMc76.out; omega); intro v256 w79 ho hb hg hat; rw [← Ny255.out] at ho; have n0_ := Aside0.mk (Kd.R_over' (by (with_reducible repeat (first | apply Kd.R_alloc | apply Kd.R_drewN | apply Kd.R_drew)); exact (Kd.R_mono (Kd.R_far (p := ⟨gb246, 3, none⟩) (Kd.R_far (p := ⟨gb246, 2, none⟩) (Kd.R_far (p := ⟨gb246, 1, none⟩) (Kd.R_types HO_7.out BK246.out (by decide)) (fun _ hk => hk.2) (.int .i64 ji65)) (fun _ hk => hk.2) (.int .i64 (wrap64 ((ji65) - t247)))) (fun _ hk => hk.2) (.int .i64 (wrap64 (x10_2 - (wrap64 ((ji65) - t247)))))) (fun _ h_ => h_.1))) (Kd.R_typed (by (with_reducible repeat (first | apply Kd.R_alloc | apply Kd.R_drewN | apply Kd.R_drew)); exact (Kd.R_mono (Kd.R_far (p := ⟨gb246, 3, none⟩) (Kd.R_far (p := ⟨gb246, 2, none⟩) (Kd.R_far (p := ⟨gb246, 1, none⟩) (Kd.R_mono HO_9.out (fun k_ hk => (⟨hk, hk⟩ : _ ∧ k_ ≠ gb246))) (fun _ hk => hk.2) (.int .i64 ji65)) (fun _ hk => hk.2) (.int .i64 (wrap64 ((ji65) - t247)))) (fun _ hk => hk.2) (.int .i64 (wrap64 (x10_2 - (wrap64 ((ji65) - t247)))))) (fun _ h_ => h_.1)))) (by decide) hg); have n1_ := Aside0.mk (blk_grown (g := gb235) (o := .cells #[.int .i64 a0_0, .int .i64 a0_1, .slice A0_2 l0_2.length c0_2, .int .i64 a0_3] 24 (0, 0)) (by (with_reducible repeat (first | refine blk_drewN ?_ _ | refine blk_drew ?_ | refine blk_alloc ?_ _)); refine blk_far ?_ NB235_246.out _; (with_reducible repeat (first | refine blk_drewN ?_ _ | refine blk_drew ?_ | refine blk_alloc ?_ _)); refine blk_far ?_ NB235_246.out _; (with_reducible repeat (first | refine blk_drewN ?_ _ | refine blk_drew ?_ | refine blk_alloc ?_ _)); refine blk_far ?_ NB235_246.out _; (with_reducible repeat (first | refine blk_drewN ?_ _ | refine blk_drew ?_ | refine blk_alloc ?_ _)); exact BK235.out) hg (Kd.R_ne HO_9.out BK235.out (by decide))); have n2_ := Aside0.mk (blk_grown (g := gb246) (o := .cells #[.int .i64 t247, .int .i64 ji65, .int .i64 (wrap64 ((ji65) - t247)), .int .i64 (wrap64 (x10_2 - (wrap64 ((ji65) - t247))))] 59 (0, 0)) (by (with_reducible repeat (first | refine blk_drewN ?_ _ | refine blk_drew ?_ | refine blk_alloc ?_ _)); refine blk_put (cs := #[.int .i64 t247, .int .i64 ji65, .int .i64 (wrap64 ((ji65) - t247)), .int .i64 0]) ?_ 3 _ rfl; (with_reducible repeat (first | refine blk_drewN ?_ _ | refine blk_drew ?_ | refine blk_alloc ?_ _)); refine blk_put (cs := #[.int .i64 t247, .int .i64 ji65, .int .i64 0, .int .i64 0]) ?_ 2 _ rfl; (with_reducible repeat (first | refine blk_drewN ?_ _ | refine blk_drew ?_ | refine blk_alloc ?_ _)); refine blk_put (cs := #[.int .i64 t247, .int .i64 0, .int .i64 0, .int .i64 0]) ?_ 1 _ rfl; (with_reducible repeat (first | refine blk_drewN ?_ _ | refine blk_drew ?_ | refine blk_alloc ?_ _)); exact BK246.out) hg (Kd.R_away HO_9.out (fun _ hk => hk))); have n3_ := Aside0.mk (hb); have n4_ := Aside0.mk (ho); clear HO_7; clear BK235; clear BK246; clear HB; clear HO_9; have HO_7 := n0_; have BK235 := n1_; have BK246 := n2_; have HB := n3_; have HO257 := n4_; clear n0_ n1_ n2_ n3_ n4_; clear ho hb hg hat))
                   go_roundg kj42
                   case measure => have := HK1.out; have := HK2.out; have := HJ25.out; have := HJ42.out; omega
                   case rel => exact ⟨(y255), (wrap64 (x10_2 - (wrap64 ((ji65) - t247)))), (x11_42), (wrap64 (x12_2 + 1)), (by first | rfl | (simp; done) | (simp only [← hji65] <;> (first | rfl | simp)) | (simp [*]; done)), (by first | rfl | (simp; done) | (simp [*]; done)), (by first | rfl | (simp; done) | (simp [*]; done)), H', ⟨by have := HK1.out; have := HK2.out; have := HJ25.out; have := HJ42.out; omega⟩, ⟨by (try simp only [hl5_1]); (with_reducible repeat (first | apply Kd.R_alloc | apply Kd.R_drewN | apply Kd.R_drew)); exact HO_7.out⟩, ⟨by (try simp only [hl5_1]); (with_reducible repeat (first | apply Kd.R_alloc | apply Kd.R_drewN | apply Kd.R_drew)); exact Kd.R_mono HO257.out (fun _ hk => trivial)⟩, ⟨by (try simp only [hl5_1]); (with_reducible repeat (first | refine blk_drewN ?_ _ | refine blk_drew ?_ | refine blk_alloc ?_ _)); exact BK235.out⟩, ⟨by repeat (first | (with_reducible first | exact HB.out | apply below_alloc | apply pw_below_drewN | apply below_drew1 | refine below_set ?_ GE235.out | refine below_set ?_ GE246.out) | exact HB.out)⟩⟩
                  ·rw [if_neg c76] at H
                   exact absurd H (by simp)
               ·rw [if_neg c64] at H
                have c64b0 : (a0_0 == 1) = false := beq_eq_false_iff_ne.mpr c64
                have c64b1 : (a0_0 != 1) = true := bne_iff_ne.mpr c64
                by_cases c80 : a0_0 = 2
                ·rw [if_pos c80] at H
                 have c80b0 : (a0_0 == 2) = true := beq_iff_eq.mpr c80
                 have c80b1 : (a0_0 != 2) = false := bne_eq_false_iff_eq.mpr c80
                 clear c80
                 by_cases c81 : 0 ≤ x12_2
                 ·rw [if_pos c81] at H
                  have c81b0 : decide (0 ≤ x12_2) = true := decide_eq_true c81
                  clear c81
                  by_cases c82 : x12_2 < (t241.length : Int)
                  ·rw [if_pos c82] at H
                   have c82b0 : decide (x12_2 < (t241.length : Int)) = true := decide_eq_true c82
                   clear c82
                   have HC83 := Aside0.mk H
                   clear H
                   have hnb84 := NB235_246.out
                   have hnc84 := NB246_235.out
                   have hcz85_0 := (blk_cell BK235.out 0).trans rfl
                   have hcz85_1 := (blk_cell BK235.out 1).trans rfl
                   have hcz85_2 := (blk_cell BK235.out 2).trans rfl
                   have hcz85_3 := (blk_cell BK235.out 3).trans rfl
                   have hfz85_0 := blk_frozen BK235.out 0
                   have hfz85_1 := blk_frozen BK235.out 1
                   have hfz85_2 := blk_frozen BK235.out 2
                   have hfz85_3 := blk_frozen BK235.out 3
                   try go_wp2
                   have n0_ := Aside0.mk (Kd.R_drew HO_7.out)
                   have n1_ := Aside0.mk (Kd.R_drew HO_9.out)
                   have n2_ := Aside0.mk (blk_drew BK235.out)
                   have n3_ := Aside0.mk (blk_drew BK246.out)
                   have n4_ := Aside0.mk (below_drew1 HB.out)
                   clear HO_7
                   clear HO_9
                   clear BK235
                   clear BK246
                   clear HB
                   have HO_7 := n0_
                   have HO_9 := n1_
                   have BK235 := n2_
                   have BK246 := n3_
                   have HB := n4_
                   clear n0_ n1_ n2_ n3_ n4_
                   obtain ⟨Ao87, co87, eo87⟩ := Kd.R_slice HO_7.out
                   (first | subst eo87 | (injection eo87 with f1_ f2_ f3_; have f4_ := f1_.symm; have f5_ := f3_.symm; clear f1_ f2_ f3_; subst f4_; subst f5_))
                   have p258 : 0 ≤ (x12_2 : Int) := of_decide_eq_true (by first | (with_reducible assumption) | assumption)
                   have q258 : x12_2 < (t241.length : Int) := of_decide_eq_true (by first | (with_reducible assumption) | assumption)
                   obtain ⟨ad258, e258, hx258_0⟩ := Kd.at_int (Kd.R_reads' HO_7.out).2.2 x12_2 p258 q258
                   cases e258
                   replace p258 := eq_true p258
                   replace q258 := eq_true q258
                   refine start_ (n := 9) (S := fun w' => w'.cell? ⟨gb246, 0, none⟩ = some (.int .i64 t247) ∧ w'.cell? ⟨gb246, 1, none⟩ = some (.int .i64 0) ∧ w'.cell? ⟨gb246, 2, none⟩ = some (.int .i64 0) ∧ w'.cell? ⟨gb246, 3, none⟩ = some (.int .i64 0) ∧ w'.cell? (ad258.add (x12_2).toNat) = some (.int .i64 (rd t241 x12_2))) (ds := [8]) #[false, false, false, false, false, false, false, false, false] (by kernel_rfl) rfl rfl ⟨(blk_cell BK246.out 0).trans rfl, (blk_cell BK246.out 1).trans rfl, (blk_cell BK246.out 2).trans rfl, (blk_cell BK246.out 3).trans rfl, hx258_0⟩ (fun hHeld => ?_); refine with_tabW lombardref08_Build.tab26 lombardref08_Build.bits26 (fun HT_ HW_ => ?_)
                   generalize wc.drew = w86 at HO_7 HO_9 BK235 BK246 HB hx258_0 hHeld ⊢
                   refine pure_ (i := 0) (N := some 108) (v := ?_) (a' := ?_) #[true, false, false, false, false, false, false, false, false] rfl rfl (any_of HT_.out (by kernel_rfl)) (fun _ _ _ h => h) (Or.inl ⟨by rfl, ?_⟩) ?_ ?_
                   rotate_left
                   ·intro w'
                    go_simp
                    with_reducible rfl
                   rotate_left
                   ·simp only [Act.put, List.setIfInBounds_toArray, List.set_cons_zero, List.set_cons_succ, i64_w, i32_w]
                    rfl
                   refine pure_ (i := 2) (N := some 110) (v := ?_) (a' := ?_) #[true, false, true, false, false, false, false, false, false] rfl rfl (any_of HT_.out (by kernel_rfl)) (fun _ _ _ h => h) (Or.inl ⟨by rfl, ?_⟩) ?_ ?_
                   rotate_left
                   ·intro w'
                    go_simp
                    with_reducible rfl
                   rotate_left
                   ·simp only [Act.put, List.setIfInBounds_toArray, List.set_cons_zero, List.set_cons_succ, i64_w, i32_w]
                    rfl
                   refine pure_ (i := 3) (N := some 111) (v := ?_) (a' := ?_) #[true, false, true, true, false, false, false, false, false] rfl rfl (any_of HT_.out (by kernel_rfl)) (fun _ _ _ h => h) (Or.inl ⟨by rfl, ?_⟩) ?_ ?_
                   rotate_left
                   ·intro w'
                    go_simp
                    with_reducible rfl
                   rotate_left
                   ·simp only [Act.put, List.setIfInBounds_toArray, List.set_cons_zero, List.set_cons_succ, i64_w, i32_w]
                    rfl
                   refine pure_ (i := 4) (N := some 112) (v := ?_) (a' := ?_) #[true, false, true, true, true, false, false, false, false] rfl rfl (any_of HT_.out (by kernel_rfl)) (fun _ _ _ h => h) (Or.inl ⟨by rfl, ?_⟩) ?_ ?_
                   rotate_left
                   ·intro w'
                    go_simp
                    with_reducible rfl
                   rotate_left
                   ·simp only [Act.put, List.setIfInBounds_toArray, List.set_cons_zero, List.set_cons_succ, i64_w, i32_w]
                    rfl
                   refine take_ (i := 1) (N := some 109) (v := ?_) (a' := ?_) #[true, true, true, true, true, false, false, false, false] rfl rfl (take_ofW HT_.out HW_.out (by kernel_rfl)) (fun _ _ _ h => h) (Or.inl ⟨by rfl, ?_⟩) hHeld ?_ ?_
                   rotate_left
                   ·rintro w' ⟨s0, s1, s2, s3, s4⟩
                    go_simp
                    with_reducible rfl
                   rotate_left
                   ·simp only [Act.put, List.setIfInBounds_toArray, List.set_cons_zero, List.set_cons_succ, i64_w, i32_w]
                    rfl
                   refine take_ (i := 5) (N := some 113) (v := ?_) (a' := ?_) #[true, true, true, true, true, true, false, false, false] rfl rfl (take_ofW HT_.out HW_.out (by kernel_rfl)) (fun _ _ _ h => h) (Or.inl ⟨by rfl, ?_⟩) hHeld ?_ ?_
                   rotate_left
                   ·rintro w' ⟨s0, s1, s2, s3, s4⟩
                    go_simp
                    with_reducible rfl
                   rotate_left
                   ·simp only [Act.put, List.setIfInBounds_toArray, List.set_cons_zero, List.set_cons_succ, i64_w, i32_w]
                    rfl
                   refine pure_ (i := 6) (N := some 114) (v := ?_) (a' := ?_) #[true, true, true, true, true, true, true, false, false] rfl rfl (any_of HT_.out (by kernel_rfl)) (fun _ _ _ h => h) (Or.inl ⟨by rfl, ?_⟩) ?_ ?_
                   rotate_left
                   ·intro w'
                    go_simp
                    with_reducible rfl
                   rotate_left
                   ·simp only [Act.put, List.setIfInBounds_toArray, List.set_cons_zero, List.set_cons_succ, i64_w, i32_w]
                    rfl
                   refine pure_ (i := 7) (N := some 115) (v := ?_) (a' := ?_) #[true, true, true, true, true, true, true, true, false] rfl rfl (any_of HT_.out (by kernel_rfl)) (fun _ _ _ h => h) (Or.inl ⟨by rfl, ?_⟩) ?_ ?_
                   rotate_left
                   ·intro w'
                    go_simp
                    with_reducible rfl
                   rotate_left
                   ·simp only [Act.put, List.setIfInBounds_toArray, List.set_cons_zero, List.set_cons_succ, i64_w, i32_w]
                    rfl
                   refine last_ (i := 8) (N := none) #[true, true, true, true, true, true, true, true, true] rfl rfl (one_of HT_.out (by kernel_rfl)) (by decide) (fun K hK => ?_)
                   have hs88 : w86.cell? ⟨gb246, 1, none⟩ = some (.int .i64 0) := (blk_cell BK246.out 1).trans rfl
                   have hfs88 := blk_frozen BK246.out 1
                   have hns88_0 := NB235_246.out
                   have hms88_0 := NB246_235.out
                   refine skip_ (w1 := ?_) (by rfl) rfl ?_ ?_
                   rotate_left
                   ·go_simp
                    rfl
                   refine hK.out _ _ ?_
                   clear hK K
                   refine done_ (done_of HT_.out (by kernel_rfl)) ?_
                   have hcz89_0 := (blk_cell BK246.out 0).trans rfl
                   have hcz89_1 := (blk_cell BK246.out 1).trans rfl
                   have hcz89_2 := (blk_cell BK246.out 2).trans rfl
                   have hcz89_3 := (blk_cell BK246.out 3).trans rfl
                   have hfz89_0 := blk_frozen BK246.out 0
                   have hfz89_1 := blk_frozen BK246.out 1
                   have hfz89_2 := blk_frozen BK246.out 2
                   have hfz89_3 := blk_frozen BK246.out 3
                   go_upto_region 31 with (fail)
                   have H := HC83.out
                   clear HC83
                   by_cases c90 : (wrap64 (x10_2 - (wrap64 ((wrap64 (t247 + (rd t241 x12_2))) - t247)))) > 10000000000000
                   ·rw [if_pos c90] at H
                    have c90b0 : decide (10000000000000 < (wrap64 (x10_2 - (wrap64 ((wrap64 (t247 + (rd t241 x12_2))) - t247))))) = true := decide_eq_true c90
                    clear c90
                    simp only [Option.some.injEq, Prod.mk.injEq] at H
                    obtain ⟨rfl, rfl⟩ := H
                    have hnb91 := NB246_235.out
                    have hnc91 := NB235_246.out
                    have hcz92_0 := (blk_cell BK246.out 0).trans rfl
                    have hcz92_1 := (blk_cell BK246.out 1).trans rfl
                    have hcz92_2 := (blk_cell BK246.out 2).trans rfl
                    have hcz92_3 := (blk_cell BK246.out 3).trans rfl
                    have hfz92_0 := blk_frozen BK246.out 0
                    have hfz92_1 := blk_frozen BK246.out 1
                    have hfz92_2 := blk_frozen BK246.out 2
                    have hfz92_3 := blk_frozen BK246.out 3
                    go_wp2
                    go_ret2
                    exact ⟨_, by first | rfl | (simp [errW_none, errW_some] <;> rfl) | (simp [*, errW_none, errW_some] <;> rfl), by first | exact Kd.R_nil _ _ _ _ _ | exact Kd.N_nil _ _ _ _ _ | exact Kd.V_nil _ _ _ _ _ | exact Kd.Q_nil _ _ _ _ _ | exact Kd.S_nil _ _ _ _ _, by repeat (first | (with_reducible first | exact HB.out | apply below_alloc | apply pw_below_drewN | apply below_drew1 | refine below_set ?_ GE235.out | refine below_set ?_ GE246.out) | exact HB.out)⟩
                   ·rw [if_neg c90] at H
                    have c90b0 : decide (10000000000000 < (wrap64 (x10_2 - (wrap64 ((wrap64 (t247 + (rd t241 x12_2))) - t247))))) = false := decide_eq_false c90
                    clear c90
                    by_cases c93 : (wrap64 (t247 + (rd t241 x12_2))) > 10000000000000
                    ·rw [if_pos c93] at H
                     have c93b0 : decide (10000000000000 < (wrap64 (t247 + (rd t241 x12_2)))) = true := decide_eq_true c93
                     clear c93
                     simp only [Option.some.injEq, Prod.mk.injEq] at H
                     obtain ⟨rfl, rfl⟩ := H
                     have hnb94 := NB246_235.out
                     have hnc94 := NB235_246.out
                     have hcz95_0 := (blk_cell BK246.out 0).trans rfl
                     have hcz95_1 := (blk_cell BK246.out 1).trans rfl
                     have hcz95_2 := (blk_cell BK246.out 2).trans rfl
                     have hcz95_3 := (blk_cell BK246.out 3).trans rfl
                     have hfz95_0 := blk_frozen BK246.out 0
                     have hfz95_1 := blk_frozen BK246.out 1
                     have hfz95_2 := blk_frozen BK246.out 2
                     have hfz95_3 := blk_frozen BK246.out 3
                     go_wp2
                     go_ret2
                     exact ⟨_, by first | rfl | (simp [errW_none, errW_some] <;> rfl) | (simp [*, errW_none, errW_some] <;> rfl), by first | exact Kd.R_nil _ _ _ _ _ | exact Kd.N_nil _ _ _ _ _ | exact Kd.V_nil _ _ _ _ _ | exact Kd.Q_nil _ _ _ _ _ | exact Kd.S_nil _ _ _ _ _, by repeat (first | (with_reducible first | exact HB.out | apply below_alloc | apply pw_below_drewN | apply below_drew1 | refine below_set ?_ GE235.out | refine below_set ?_ GE246.out) | exact HB.out)⟩
                    ·rw [if_neg c93] at H
                     have c93b0 : decide (10000000000000 < (wrap64 (t247 + (rd t241 x12_2)))) = false := decide_eq_false c93
                     clear c93
                     by_cases c96 : x9_2.length < 4398046511104
                     ·rw [if_pos c96] at H
                      have LMc96 := Aside0.mk c96
                      clear c96
                      obtain ⟨y259, hy259⟩ : ∃ y_ : List (S59), y_ = (x9_2 ++ [(⟨t247, wrap64 (t247 + (rd t241 x12_2)), wrap64 ((wrap64 (t247 + (rd t241 x12_2))) - t247), wrap64 (x10_2 - (wrap64 ((wrap64 (t247 + (rd t241 x12_2))) - t247)))⟩ : S59)]) := ⟨_, rfl⟩
                      replace H : (lombardref08_Build.l1 kj42 t241 y259 (wrap64 (x10_2 - (wrap64 ((wrap64 (t247 + (rd t241 x12_2))) - t247)))) x11_42 (wrap64 (x12_2 + 1)) a0_0 a0_1 l0_2 a0_3) = some (r1, r2) := by first | (rw [hy259]; with_reducible exact H) | (have H2_ := (Option.bind_some _ _).symm.trans H; rw [hy259]; with_reducible exact H2_) | (have H2_ := (Option.bind_some _ _).symm.trans H; with_reducible exact H2_) | with_reducible exact H | (rw [hy259]; exact H) | exact H
                      have Ny259 := Aside0.mk hy259
                      clear hy259
                      have H' := Aside0.mk H
                      clear H
                      have hnb97 := NB246_235.out
                      have hnc97 := NB235_246.out
                      have hcz98_0 := (blk_cell BK246.out 0).trans rfl
                      have hcz98_1 := (blk_cell BK246.out 1).trans rfl
                      have hcz98_2 := (blk_cell BK246.out 2).trans rfl
                      have hcz98_3 := (blk_cell BK246.out 3).trans rfl
                      have hfz98_0 := blk_frozen BK246.out 0
                      have hfz98_1 := blk_frozen BK246.out 1
                      have hfz98_2 := blk_frozen BK246.out 2
                      have hfz98_3 := blk_frozen BK246.out 3
                      go_wp2_with (first | ((with_reducible refine gate_builtin (b := .append) (xs := #[.tmp 144, .tmp 146]) rfl ?_); at_builtin; refine Kd.R_append k59 (w0 := w) w.heap.size rfl (.tmp 144) (.tmp 146) 32 59 (.agg #[(.int .i64 0), (.int .i64 0), (.int .i64 0), (.int .i64 0)]) 32 rfl Try.underlying32 info59 rfl (by decide) (by omega) u9 x9_2 (⟨t247, wrap64 (t247 + (rd t241 x12_2)), wrap64 ((wrap64 (t247 + (rd t241 x12_2))) - t247), wrap64 (x10_2 - (wrap64 ((wrap64 (t247 + (rd t241 x12_2))) - t247)))⟩ : S59) [.int .i64 t247, .int .i64 (wrap64 (t247 + (rd t241 x12_2))), .int .i64 (wrap64 ((wrap64 (t247 + (rd t241 x12_2))) - t247)), .int .i64 (wrap64 (x10_2 - (wrap64 ((wrap64 (t247 + (rd t241 x12_2))) - t247))))] (fun k_ => k_ ≠ gb246) (fun _ => False) rfl (by first | (go_simp; done) | (go_simp; rfl)) ?aP (fun _ hk => hk.elim) ?aF ?aO ?aB ?aS ?aL ?_; (case aP => exact k59_mkM _ _ _ (⟨t247, wrap64 (t247 + (rd t241 x12_2)), wrap64 ((wrap64 (t247 + (rd t241 x12_2))) - t247), wrap64 (x10_2 - (wrap64 ((wrap64 (t247 + (rd t241 x12_2))) - t247)))⟩ : S59)); (case aB => exact (by repeat (first | (with_reducible first | exact HB.out | apply below_alloc | apply pw_below_drewN | apply below_drew1 | refine below_set ?_ GE235.out | refine below_set ?_ GE246.out) | exact HB.out))); (case aF => exact (fun k_ hk => Kd.freshB (g := gb246) (o := .cells #[.int .i64 t247, .int .i64 (wrap64 (t247 + (rd t241 x12_2))), .int .i64 (wrap64 ((wrap64 (t247 + (rd t241 x12_2))) - t247)), .int .i64 (wrap64 (x10_2 - (wrap64 ((wrap64 (t247 + (rd t241 x12_2))) - t247))))] 59 (0, 0)) (by (with_reducible repeat (first | refine blk_drewN ?_ _ | refine blk_drew ?_ | refine blk_alloc ?_ _)); refine blk_put (cs := #[.int .i64 t247, .int .i64 (wrap64 (t247 + (rd t241 x12_2))), .int .i64 (wrap64 ((wrap64 (t247 + (rd t241 x12_2))) - t247)), .int .i64 0]) ?_ 3 _ rfl; (with_reducible repeat (first | refine blk_drewN ?_ _ | refine blk_drew ?_ | refine blk_alloc ?_ _)); refine blk_put (cs := #[.int .i64 t247, .int .i64 (wrap64 (t247 + (rd t241 x12_2))), .int .i64 0, .int .i64 0]) ?_ 2 _ rfl; (with_reducible repeat (first | refine blk_drewN ?_ _ | refine blk_drew ?_ | refine blk_alloc ?_ _)); refine blk_put (cs := #[.int .i64 t247, .int .i64 0, .int .i64 0, .int .i64 0]) ?_ 1 _ rfl; (with_reducible repeat (first | refine blk_drewN ?_ _ | refine blk_drew ?_ | refine blk_alloc ?_ _)); exact BK246.out) k_ hk)); (case aO => exact (by (with_reducible repeat (first | apply Kd.R_alloc | apply Kd.R_drewN | apply Kd.R_drew)); exact Kd.R_mono (Kd.R_far (p := ⟨gb246, 3, none⟩) (Kd.R_far (p := ⟨gb246, 2, none⟩) (Kd.R_far (p := ⟨gb246, 1, none⟩) (Kd.R_mono HO_9.out (fun k_ hk => (⟨hk, hk⟩ : _ ∧ k_ ≠ gb246))) (fun _ hk => hk.2) (.int .i64 (wrap64 (t247 + (rd t241 x12_2))))) (fun _ hk => hk.2) (.int .i64 (wrap64 ((wrap64 (t247 + (rd t241 x12_2))) - t247)))) (fun _ hk => hk.2) (.int .i64 (wrap64 (x10_2 - (wrap64 ((wrap64 (t247 + (rd t241 x12_2))) - t247)))))) (fun _ hk => hk.1))); (case aS => exact (below_size (by repeat (first | (with_reducible first | exact HB.out | apply below_alloc | apply pw_below_drewN | apply below_drew1 | refine below_set ?_ GE235.out | refine below_set ?_ GE246.out) | exact HB.out)))); (case aL => have := LMc96.out; omega); intro v260 w99 ho hb hg hat; rw [← Ny259.out] at ho; have n0_ := Aside0.mk (Kd.R_over' (by (with_reducible repeat (first | apply Kd.R_alloc | apply Kd.R_drewN | apply Kd.R_drew)); exact (Kd.R_mono (Kd.R_far (p := ⟨gb246, 3, none⟩) (Kd.R_far (p := ⟨gb246, 2, none⟩) (Kd.R_far (p := ⟨gb246, 1, none⟩) (Kd.R_types HO_7.out BK246.out (by decide)) (fun _ hk => hk.2) (.int .i64 (wrap64 (t247 + (rd t241 x12_2))))) (fun _ hk => hk.2) (.int .i64 (wrap64 ((wrap64 (t247 + (rd t241 x12_2))) - t247)))) (fun _ hk => hk.2) (.int .i64 (wrap64 (x10_2 - (wrap64 ((wrap64 (t247 + (rd t241 x12_2))) - t247)))))) (fun _ h_ => h_.1))) (Kd.R_typed (by (with_reducible repeat (first | apply Kd.R_alloc | apply Kd.R_drewN | apply Kd.R_drew)); exact (Kd.R_mono (Kd.R_far (p := ⟨gb246, 3, none⟩) (Kd.R_far (p := ⟨gb246, 2, none⟩) (Kd.R_far (p := ⟨gb246, 1, none⟩) (Kd.R_mono HO_9.out (fun k_ hk => (⟨hk, hk⟩ : _ ∧ k_ ≠ gb246))) (fun _ hk => hk.2) (.int .i64 (wrap64 (t247 + (rd t241 x12_2))))) (fun _ hk => hk.2) (.int .i64 (wrap64 ((wrap64 (t247 + (rd t241 x12_2))) - t247)))) (fun _ hk => hk.2) (.int .i64 (wrap64 (x10_2 - (wrap64 ((wrap64 (t247 + (rd t241 x12_2))) - t247)))))) (fun _ h_ => h_.1)))) (by decide) hg); have n1_ := Aside0.mk (blk_grown (g := gb235) (o := .cells #[.int .i64 a0_0, .int .i64 a0_1, .slice A0_2 l0_2.length c0_2, .int .i64 a0_3] 24 (0, 0)) (by (with_reducible repeat (first | refine blk_drewN ?_ _ | refine blk_drew ?_ | refine blk_alloc ?_ _)); refine blk_far ?_ NB235_246.out _; (with_reducible repeat (first | refine blk_drewN ?_ _ | refine blk_drew ?_ | refine blk_alloc ?_ _)); refine blk_far ?_ NB235_246.out _; (with_reducible repeat (first | refine blk_drewN ?_ _ | refine blk_drew ?_ | refine blk_alloc ?_ _)); refine blk_far ?_ NB235_246.out _; (with_reducible repeat (first | refine blk_drewN ?_ _ | refine blk_drew ?_ | refine blk_alloc ?_ _)); exact BK235.out) hg (Kd.R_ne HO_9.out BK235.out (by decide))); have n2_ := Aside0.mk (blk_grown (g := gb246) (o := .cells #[.int .i64 t247, .int .i64 (wrap64 (t247 + (rd t241 x12_2))), .int .i64 (wrap64 ((wrap64 (t247 + (rd t241 x12_2))) - t247)), .int .i64 (wrap64 (x10_2 - (wrap64 ((wrap64 (t247 + (rd t241 x12_2))) - t247))))] 59 (0, 0)) (by (with_reducible repeat (first | refine blk_drewN ?_ _ | refine blk_drew ?_ | refine blk_alloc ?_ _)); refine blk_put (cs := #[.int .i64 t247, .int .i64 (wrap64 (t247 + (rd t241 x12_2))), .int .i64 (wrap64 ((wrap64 (t247 + (rd t241 x12_2))) - t247)), .int .i64 0]) ?_ 3 _ rfl; (with_reducible repeat (first | refine blk_drewN ?_ _ | refine blk_drew ?_ | refine blk_alloc ?_ _)); refine blk_put (cs := #[.int .i64 t247, .int .i64 (wrap64 (t247 + (rd t241 x12_2))), .int .i64 0, .int .i64 0]) ?_ 2 _ rfl; (with_reducible repeat (first | refine blk_drewN ?_ _ | refine blk_drew ?_ | refine blk_alloc ?_ _)); refine blk_put (cs := #[.int .i64 t247, .int .i64 0, .int .i64 0, .int .i64 0]) ?_ 1 _ rfl; (with_reducible repeat (first | refine blk_drewN ?_ _ | refine blk_drew ?_ | refine blk_alloc ?_ _)); exact BK246.out) hg (Kd.R_away HO_9.out (fun _ hk => hk))); have n3_ := Aside0.mk (hb); have n4_ := Aside0.mk (ho); clear HO_7; clear BK235; clear BK246; clear HB; clear HO_9; have HO_7 := n0_; have BK235 := n1_; have BK246 := n2_; have HB := n3_; have HO261 := n4_; clear n0_ n1_ n2_ n3_ n4_; clear ho hb hg hat))
                      go_roundg kj42
                      case measure => have := HK1.out; have := HK2.out; have := HJ25.out; have := HJ42.out; omega
                      case rel => exact ⟨(y259), (wrap64 (x10_2 - (wrap64 ((wrap64 (t247 + (rd t241 x12_2))) - t247)))), (x11_42), (wrap64 (x12_2 + 1)), (by first | rfl | (simp; done) | (simp [*]; done)), (by first | rfl | (simp; done) | (simp [*]; done)), (by first | rfl | (simp; done) | (simp [*]; done)), H', ⟨by have := HK1.out; have := HK2.out; have := HJ25.out; have := HJ42.out; omega⟩, ⟨by (try simp only [hl5_1]); (with_reducible repeat (first | apply Kd.R_alloc | apply Kd.R_drewN | apply Kd.R_drew)); exact HO_7.out⟩, ⟨by (try simp only [hl5_1]); (with_reducible repeat (first | apply Kd.R_alloc | apply Kd.R_drewN | apply Kd.R_drew)); exact Kd.R_mono HO261.out (fun _ hk => trivial)⟩, ⟨by (try simp only [hl5_1]); (with_reducible repeat (first | refine blk_drewN ?_ _ | refine blk_drew ?_ | refine blk_alloc ?_ _)); exact BK235.out⟩, ⟨by repeat (first | (with_reducible first | exact HB.out | apply below_alloc | apply pw_below_drewN | apply below_drew1 | refine below_set ?_ GE235.out | refine below_set ?_ GE246.out) | exact HB.out)⟩⟩
                     ·rw [if_neg c96] at H
                      exact absurd H (by simp)
                  ·rw [if_neg c82] at H
                   exact absurd H (by simp)
                 ·rw [if_neg c81] at H
                  exact absurd H (by simp)
                ·rw [if_neg c80] at H
                 have c80b0 : (a0_0 == 2) = false := beq_eq_false_iff_ne.mpr c80
                 have c80b1 : (a0_0 != 2) = true := bne_iff_ne.mpr c80
                 by_cases c100 : a0_0 = 3
                 ·rw [if_pos c100] at H
                  have c100b0 : (a0_0 == 3) = true := beq_iff_eq.mpr c100
                  have c100b1 : (a0_0 != 3) = false := bne_eq_false_iff_eq.mpr c100
                  clear c100
                  have HC101 := Aside0.mk H
                  clear H
                  have hnb102 := NB235_246.out
                  have hnc102 := NB246_235.out
                  have hcz103_0 := (blk_cell BK235.out 0).trans rfl
                  have hcz103_1 := (blk_cell BK235.out 1).trans rfl
                  have hcz103_2 := (blk_cell BK235.out 2).trans rfl
                  have hcz103_3 := (blk_cell BK235.out 3).trans rfl
                  have hfz103_0 := blk_frozen BK235.out 0
                  have hfz103_1 := blk_frozen BK235.out 1
                  have hfz103_2 := blk_frozen BK235.out 2
                  have hfz103_3 := blk_frozen BK235.out 3
                  have hcz104_0 := (blk_cell BK246.out 0).trans rfl
                  have hcz104_1 := (blk_cell BK246.out 1).trans rfl
                  have hcz104_2 := (blk_cell BK246.out 2).trans rfl
                  have hcz104_3 := (blk_cell BK246.out 3).trans rfl
                  have hfz104_0 := blk_frozen BK246.out 0
                  have hfz104_1 := blk_frozen BK246.out 1
                  have hfz104_2 := blk_frozen BK246.out 2
                  have hfz104_3 := blk_frozen BK246.out 3
                  go_upto_region 31 with (fail)
                  have H := HC101.out
                  clear HC101
                  rw [Int.sub_self, show wrap64 0 = 0 from by decide +kernel, Int.sub_zero] at H   -- fixz
                  by_cases c105 : (wrap64 x10_2) > 10000000000000
                  ·rw [if_pos c105] at H
                   have c105b0 : decide (10000000000000 < (wrap64 x10_2)) = true := decide_eq_true c105
                   clear c105
                   simp only [Option.some.injEq, Prod.mk.injEq] at H
                   obtain ⟨rfl, rfl⟩ := H
                   have hnb106 := NB246_235.out
                   have hnc106 := NB235_246.out
                   have hcz107_0 := (blk_cell BK246.out 0).trans rfl
                   have hcz107_1 := (blk_cell BK246.out 1).trans rfl
                   have hcz107_2 := (blk_cell BK246.out 2).trans rfl
                   have hcz107_3 := (blk_cell BK246.out 3).trans rfl
                   have hfz107_0 := blk_frozen BK246.out 0
                   have hfz107_1 := blk_frozen BK246.out 1
                   have hfz107_2 := blk_frozen BK246.out 2
                   have hfz107_3 := blk_frozen BK246.out 3
                   go_wp2
                   go_ret2
                   exact ⟨_, by first | rfl | (simp [errW_none, errW_some] <;> rfl) | (simp [*, errW_none, errW_some] <;> rfl), by first | exact Kd.R_nil _ _ _ _ _ | exact Kd.N_nil _ _ _ _ _ | exact Kd.V_nil _ _ _ _ _ | exact Kd.Q_nil _ _ _ _ _ | exact Kd.S_nil _ _ _ _ _, by repeat (first | (with_reducible first | exact HB.out | apply below_alloc | apply pw_below_drewN | apply below_drew1 | refine below_set ?_ GE235.out | refine below_set ?_ GE246.out) | exact HB.out)⟩
                  ·rw [if_neg c105] at H
                   have c105b0 : decide (10000000000000 < (wrap64 x10_2)) = false := decide_eq_false c105
                   clear c105
                   by_cases c108 : t247 > 10000000000000
                   ·rw [if_pos c108] at H
                    have c108b0 : decide (10000000000000 < t247) = true := decide_eq_true c108
                    clear c108
                    simp only [Option.some.injEq, Prod.mk.injEq] at H
                    obtain ⟨rfl, rfl⟩ := H
                    have hnb109 := NB246_235.out
                    have hnc109 := NB235_246.out
                    have hcz110_0 := (blk_cell BK246.out 0).trans rfl
                    have hcz110_1 := (blk_cell BK246.out 1).trans rfl
                    have hcz110_2 := (blk_cell BK246.out 2).trans rfl
                    have hcz110_3 := (blk_cell BK246.out 3).trans rfl
                    have hfz110_0 := blk_frozen BK246.out 0
                    have hfz110_1 := blk_frozen BK246.out 1
                    have hfz110_2 := blk_frozen BK246.out 2
                    have hfz110_3 := blk_frozen BK246.out 3
                    go_wp2
                    go_ret2
                    exact ⟨_, by first | rfl | (simp [errW_none, errW_some] <;> rfl) | (simp [*, errW_none, errW_some] <;> rfl), by first | exact Kd.R_nil _ _ _ _ _ | exact Kd.N_nil _ _ _ _ _ | exact Kd.V_nil _ _ _ _ _ | exact Kd.Q_nil _ _ _ _ _ | exact Kd.S_nil _ _ _ _ _, by repeat (first | (with_reducible first | exact HB.out | apply below_alloc | apply pw_below_drewN | apply below_drew1 | refine below_set ?_ GE235.out | refine below_set ?_ GE246.out) | exact HB.out)⟩
                   ·rw [if_neg c108] at H
                    have c108b0 : decide (10000000000000 < t247) = false := decide_eq_false c108
                    clear c108
                    by_cases c111 : x9_2.length < 4398046511104
                    ·rw [if_pos c111] at H
                     have LMc111 := Aside0.mk c111
                     clear c111
                     obtain ⟨y262, hy262⟩ : ∃ y_ : List (S59), y_ = (x9_2 ++ [(⟨t247, t247, 0, wrap64 x10_2⟩ : S59)]) := ⟨_, rfl⟩
                     replace H : (lombardref08_Build.l1 kj42 t241 y262 (wrap64 x10_2) x11_42 (wrap64 (x12_2 + 1)) a0_0 a0_1 l0_2 a0_3) = some (r1, r2) := by first | (rw [hy262]; with_reducible exact H) | (have H2_ := (Option.bind_some _ _).symm.trans H; rw [hy262]; with_reducible exact H2_) | (have H2_ := (Option.bind_some _ _).symm.trans H; with_reducible exact H2_) | with_reducible exact H | (rw [hy262]; exact H) | exact H
                     have Ny262 := Aside0.mk hy262
                     clear hy262
                     have H' := Aside0.mk H
                     clear H
                     have hnb112 := NB246_235.out
                     have hnc112 := NB235_246.out
                     have hcz113_0 := (blk_cell BK246.out 0).trans rfl
                     have hcz113_1 := (blk_cell BK246.out 1).trans rfl
                     have hcz113_2 := (blk_cell BK246.out 2).trans rfl
                     have hcz113_3 := (blk_cell BK246.out 3).trans rfl
                     have hfz113_0 := blk_frozen BK246.out 0
                     have hfz113_1 := blk_frozen BK246.out 1
                     have hfz113_2 := blk_frozen BK246.out 2
                     have hfz113_3 := blk_frozen BK246.out 3
                     go_wp2_with (first | ((with_reducible refine gate_builtin (b := .append) (xs := #[.tmp 144, .tmp 146]) rfl ?_); at_builtin; refine Kd.R_append k59 (w0 := w) w.heap.size rfl (.tmp 144) (.tmp 146) 32 59 (.agg #[(.int .i64 0), (.int .i64 0), (.int .i64 0), (.int .i64 0)]) 32 rfl Try.underlying32 info59 rfl (by decide) (by omega) u9 x9_2 (⟨t247, t247, 0, wrap64 x10_2⟩ : S59) [.int .i64 t247, .int .i64 t247, .int .i64 (0), .int .i64 (wrap64 x10_2)] (fun k_ => k_ ≠ gb246) (fun _ => False) rfl (by first | (go_simp; done) | (go_simp; rfl)) ?aP (fun _ hk => hk.elim) ?aF ?aO ?aB ?aS ?aL ?_; (case aP => exact k59_mkM _ _ _ (⟨t247, t247, 0, wrap64 x10_2⟩ : S59)); (case aB => exact (by repeat (first | (with_reducible first | exact HB.out | apply below_alloc | apply pw_below_drewN | apply below_drew1 | refine below_set ?_ GE235.out | refine below_set ?_ GE246.out) | exact HB.out))); (case aF => exact (fun k_ hk => Kd.freshB (g := gb246) (o := .cells #[.int .i64 t247, .int .i64 t247, .int .i64 (0), .int .i64 (wrap64 x10_2)] 59 (0, 0)) (by (with_reducible repeat (first | refine blk_drewN ?_ _ | refine blk_drew ?_ | refine blk_alloc ?_ _)); refine blk_put (cs := #[.int .i64 t247, .int .i64 t247, .int .i64 (0), .int .i64 0]) ?_ 3 _ rfl; (with_reducible repeat (first | refine blk_drewN ?_ _ | refine blk_drew ?_ | refine blk_alloc ?_ _)); refine blk_put (cs := #[.int .i64 t247, .int .i64 t247, .int .i64 0, .int .i64 0]) ?_ 2 _ rfl; (with_reducible repeat (first | refine blk_drewN ?_ _ | refine blk_drew ?_ | refine blk_alloc ?_ _)); refine blk_put (cs := #[.int .i64 t247, .int .i64 0, .int .i64 0, .int .i64 0]) ?_ 1 _ rfl; (with_reducible repeat (first | refine blk_drewN ?_ _ | refine blk_drew ?_ | refine blk_alloc ?_ _)); exact BK246.out) k_ hk)); (case aO => exact (by (with_reducible repeat (first | apply Kd.R_alloc | apply Kd.R_drewN | apply Kd.R_drew)); exact Kd.R_mono (Kd.R_far (p := ⟨gb246, 3, none⟩) (Kd.R_far (p := ⟨gb246, 2, none⟩) (Kd.R_far (p := ⟨gb246, 1, none⟩) (Kd.R_mono HO_9.out (fun k_ hk => (⟨hk, hk⟩ : _ ∧ k_ ≠ gb246))) (fun _ hk => hk.2) (.int .i64 t247)) (fun _ hk => hk.2) (.int .i64 (0))) (fun _ hk => hk.2) (.int .i64 (wrap64 x10_2))) (fun _ hk => hk.1))); (case aS => exact (below_size (by repeat (first | (with_reducible first | exact HB.out | apply below_alloc | apply pw_below_drewN | apply below_drew1 | refine below_set ?_ GE235.out | refine below_set ?_ GE246.out) | exact HB.out)))); (case aL => have := LMc111.out; omega); intro v263 w114 ho hb hg hat; rw [← Ny262.out] at ho; have n0_ := Aside0.mk (Kd.R_over' (by (with_reducible repeat (first | apply Kd.R_alloc | apply Kd.R_drewN | apply Kd.R_drew)); exact (Kd.R_mono (Kd.R_far (p := ⟨gb246, 3, none⟩) (Kd.R_far (p := ⟨gb246, 2, none⟩) (Kd.R_far (p := ⟨gb246, 1, none⟩) (Kd.R_types HO_7.out BK246.out (by decide)) (fun _ hk => hk.2) (.int .i64 t247)) (fun _ hk => hk.2) (.int .i64 (0))) (fun _ hk => hk.2) (.int .i64 (wrap64 x10_2))) (fun _ h_ => h_.1))) (Kd.R_typed (by (with_reducible repeat (first | apply Kd.R_alloc | apply Kd.R_drewN | apply Kd.R_drew)); exact (Kd.R_mono (Kd.R_far (p := ⟨gb246, 3, none⟩) (Kd.R_far (p := ⟨gb246, 2, none⟩) (Kd.R_far (p := ⟨gb246, 1, none⟩) (Kd.R_mono HO_9.out (fun k_ hk => (⟨hk, hk⟩ : _ ∧ k_ ≠ gb246))) (fun _ hk => hk.2) (.int .i64 t247)) (fun _ hk => hk.2) (.int .i64 (0))) (fun _ hk => hk.2) (.int .i64 (wrap64 x10_2))) (fun _ h_ => h_.1)))) (by decide) hg); have n1_ := Aside0.mk (blk_grown (g := gb235) (o := .cells #[.int .i64 a0_0, .int .i64 a0_1, .slice A0_2 l0_2.length c0_2, .int .i64 a0_3] 24 (0, 0)) (by (with_reducible repeat (first | refine blk_drewN ?_ _ | refine blk_drew ?_ | refine blk_alloc ?_ _)); refine blk_far ?_ NB235_246.out _; (with_reducible repeat (first | refine blk_drewN ?_ _ | refine blk_drew ?_ | refine blk_alloc ?_ _)); refine blk_far ?_ NB235_246.out _; (with_reducible repeat (first | refine blk_drewN ?_ _ | refine blk_drew ?_ | refine blk_alloc ?_ _)); refine blk_far ?_ NB235_246.out _; (with_reducible repeat (first | refine blk_drewN ?_ _ | refine blk_drew ?_ | refine blk_alloc ?_ _)); exact BK235.out) hg (Kd.R_ne HO_9.out BK235.out (by decide))); have n2_ := Aside0.mk (blk_grown (g := gb246) (o := .cells #[.int .i64 t247, .int .i64 t247, .int .i64 (0), .int .i64 (wrap64 x10_2)] 59 (0, 0)) (by (with_reducible repeat (first | refine blk_drewN ?_ _ | refine blk_drew ?_ | refine blk_alloc ?_ _)); refine blk_put (cs := #[.int .i64 t247, .int .i64 t247, .int .i64 (0), .int .i64 0]) ?_ 3 _ rfl; (with_reducible repeat (first | refine blk_drewN ?_ _ | refine blk_drew ?_ | refine blk_alloc ?_ _)); refine blk_put (cs := #[.int .i64 t247, .int .i64 t247, .int .i64 0, .int .i64 0]) ?_ 2 _ rfl; (with_reducible repeat (first | refine blk_drewN ?_ _ | refine blk_drew ?_ | refine blk_alloc ?_ _)); refine blk_put (cs := #[.int .i64 t247, .int .i64 0, .int .i64 0, .int .i64 0]) ?_ 1 _ rfl; (with_reducible repeat (first | refine blk_drewN ?_ _ | refine blk_drew ?_ | refine blk_alloc ?_ _)); exact BK246.out) hg (Kd.R_away HO_9.out (fun _ hk => hk))); have n3_ := Aside0.mk (hb); have n4_ := Aside0.mk (ho); clear HO_7; clear BK235; clear BK246; clear HB; clear HO_9; have HO_7 := n0_; have BK235 := n1_; have BK246 := n2_; have HB := n3_; have HO264 := n4_; clear n0_ n1_ n2_ n3_ n4_; clear ho hb hg hat))
                     go_roundg kj42
                     case measure => have := HK1.out; have := HK2.out; have := HJ25.out; have := HJ42.out; omega
                     case rel => exact ⟨(y262), (wrap64 x10_2), (x11_42), (wrap64 (x12_2 + 1)), (by first | rfl | (simp; done) | (simp [*]; done)), (by first | rfl | (simp; done) | (simp [*]; done)), (by first | rfl | (simp; done) | (simp [*]; done)), H', ⟨by have := HK1.out; have := HK2.out; have := HJ25.out; have := HJ42.out; omega⟩, ⟨by (try simp only [hl5_1]); (with_reducible repeat (first | apply Kd.R_alloc | apply Kd.R_drewN | apply Kd.R_drew)); exact HO_7.out⟩, ⟨by (try simp only [hl5_1]); (with_reducible repeat (first | apply Kd.R_alloc | apply Kd.R_drewN | apply Kd.R_drew)); exact Kd.R_mono HO264.out (fun _ hk => trivial)⟩, ⟨by (try simp only [hl5_1]); (with_reducible repeat (first | refine blk_drewN ?_ _ | refine blk_drew ?_ | refine blk_alloc ?_ _)); exact BK235.out⟩, ⟨by repeat (first | (with_reducible first | exact HB.out | apply below_alloc | apply pw_below_drewN | apply below_drew1 | refine below_set ?_ GE235.out | refine below_set ?_ GE246.out) | exact HB.out)⟩⟩
                    ·rw [if_neg c111] at H
                     exact absurd H (by simp)
                 ·rw [if_neg c100] at H
                  have c100b0 : (a0_0 == 3) = false := beq_eq_false_iff_ne.mpr c100
                  have c100b1 : (a0_0 != 3) = true := bne_iff_ne.mpr c100
                  have HC115 := Aside0.mk H
                  clear H
                  have hnb116 := NB235_246.out
                  have hnc116 := NB246_235.out
                  have hcz117_0 := (blk_cell BK235.out 0).trans rfl
                  have hcz117_1 := (blk_cell BK235.out 1).trans rfl
                  have hcz117_2 := (blk_cell BK235.out 2).trans rfl
                  have hcz117_3 := (blk_cell BK235.out 3).trans rfl
                  have hfz117_0 := blk_frozen BK235.out 0
                  have hfz117_1 := blk_frozen BK235.out 1
                  have hfz117_2 := blk_frozen BK235.out 2
                  have hfz117_3 := blk_frozen BK235.out 3
                  have hcz118_0 := (blk_cell BK246.out 0).trans rfl
                  have hcz118_1 := (blk_cell BK246.out 1).trans rfl
                  have hcz118_2 := (blk_cell BK246.out 2).trans rfl
                  have hcz118_3 := (blk_cell BK246.out 3).trans rfl
                  have hfz118_0 := blk_frozen BK246.out 0
                  have hfz118_1 := blk_frozen BK246.out 1
                  have hfz118_2 := blk_frozen BK246.out 2
                  have hfz118_3 := blk_frozen BK246.out 3
                  go_upto_region 31 with (fail)
                  have H := HC115.out
                  clear HC115
                  simp only [Int.zero_sub, show ((0 : Int) > 10000000000000) = False from by decide, if_false] at H   -- fixz
                  by_cases c119 : (wrap64 (x10_2 - (wrap64 (-t247)))) > 10000000000000
                  ·rw [if_pos c119] at H
                   have c119b0 : decide (10000000000000 < (wrap64 (x10_2 - (wrap64 (-t247))))) = true := decide_eq_true c119
                   clear c119
                   simp only [Option.some.injEq, Prod.mk.injEq] at H
                   obtain ⟨rfl, rfl⟩ := H
                   have hnb120 := NB246_235.out
                   have hnc120 := NB235_246.out
                   have hcz121_0 := (blk_cell BK246.out 0).trans rfl
                   have hcz121_1 := (blk_cell BK246.out 1).trans rfl
                   have hcz121_2 := (blk_cell BK246.out 2).trans rfl
                   have hcz121_3 := (blk_cell BK246.out 3).trans rfl
                   have hfz121_0 := blk_frozen BK246.out 0
                   have hfz121_1 := blk_frozen BK246.out 1
                   have hfz121_2 := blk_frozen BK246.out 2
                   have hfz121_3 := blk_frozen BK246.out 3
                   go_wp2
                   go_ret2
                   exact ⟨_, by first | rfl | (simp [errW_none, errW_some] <;> rfl) | (simp [*, errW_none, errW_some] <;> rfl), by first | exact Kd.R_nil _ _ _ _ _ | exact Kd.N_nil _ _ _ _ _ | exact Kd.V_nil _ _ _ _ _ | exact Kd.Q_nil _ _ _ _ _ | exact Kd.S_nil _ _ _ _ _, by repeat (first | (with_reducible first | exact HB.out | apply below_alloc | apply pw_below_drewN | apply below_drew1 | refine below_set ?_ GE235.out | refine below_set ?_ GE246.out) | exact HB.out)⟩
                  ·rw [if_neg c119] at H
                   have c119b0 : decide (10000000000000 < (wrap64 (x10_2 - (wrap64 (-t247))))) = false := decide_eq_false c119
                   clear c119
                   by_cases c122 : False
                   ·exact c122.elim
                   ·have e_ := c122
                    clear c122
                    by_cases c125 : x9_2.length < 4398046511104
                    ·rw [if_pos c125] at H
                     have LMc125 := Aside0.mk c125
                     clear c125
                     obtain ⟨y265, hy265⟩ : ∃ y_ : List (S59), y_ = (x9_2 ++ [(⟨t247, 0, wrap64 (-t247), wrap64 (x10_2 - (wrap64 (-t247)))⟩ : S59)]) := ⟨_, rfl⟩
                     replace H : (lombardref08_Build.l1 kj42 t241 y265 (wrap64 (x10_2 - (wrap64 (-t247)))) x11_42 (wrap64 (x12_2 + 1)) a0_0 a0_1 l0_2 a0_3) = some (r1, r2) := by first | (rw [hy265]; with_reducible exact H) | (have H2_ := (Option.bind_some _ _).symm.trans H; rw [hy265]; with_reducible exact H2_) | (have H2_ := (Option.bind_some _ _).symm.trans H; with_reducible exact H2_) | with_reducible exact H | (rw [hy265]; exact H) | exact H
                     have Ny265 := Aside0.mk hy265
                     clear hy265
                     have H' := Aside0.mk H
                     clear H
                     have hnb126 := NB246_235.out
                     have hnc126 := NB235_246.out
                     have hcz127_0 := (blk_cell BK246.out 0).trans rfl
                     have hcz127_1 := (blk_cell BK246.out 1).trans rfl
                     have hcz127_2 := (blk_cell BK246.out 2).trans rfl
                     have hcz127_3 := (blk_cell BK246.out 3).trans rfl
                     have hfz127_0 := blk_frozen BK246.out 0
                     have hfz127_1 := blk_frozen BK246.out 1
                     have hfz127_2 := blk_frozen BK246.out 2
                     have hfz127_3 := blk_frozen BK246.out 3
                     go_wp2_with (first | ((with_reducible refine gate_builtin (b := .append) (xs := #[.tmp 144, .tmp 146]) rfl ?_); at_builtin; refine Kd.R_append k59 (w0 := w) w.heap.size rfl (.tmp 144) (.tmp 146) 32 59 (.agg #[(.int .i64 0), (.int .i64 0), (.int .i64 0), (.int .i64 0)]) 32 rfl Try.underlying32 info59 rfl (by decide) (by omega) u9 x9_2 (⟨t247, 0, wrap64 (-t247), wrap64 (x10_2 - (wrap64 (-t247)))⟩ : S59) [.int .i64 t247, .int .i64 0, .int .i64 (wrap64 (-t247)), .int .i64 (wrap64 (x10_2 - (wrap64 (-t247))))] (fun k_ => k_ ≠ gb246) (fun _ => False) rfl (by first | (go_simp; done) | (go_simp; rfl)) ?aP (fun _ hk => hk.elim) ?aF ?aO ?aB ?aS ?aL ?_; (case aP => exact k59_mkM _ _ _ (⟨t247, 0, wrap64 (-t247), wrap64 (x10_2 - (wrap64 (-t247)))⟩ : S59)); (case aB => exact (by repeat (first | (with_reducible first | exact HB.out | apply below_alloc | apply pw_below_drewN | apply below_drew1 | refine below_set ?_ GE235.out | refine below_set ?_ GE246.out) | exact HB.out))); (case aF => exact (fun k_ hk => Kd.freshB (g := gb246) (o := .cells #[.int .i64 t247, .int .i64 0, .int .i64 (wrap64 (-t247)), .int .i64 (wrap64 (x10_2 - (wrap64 (-t247))))] 59 (0, 0)) (by (with_reducible repeat (first | refine blk_drewN ?_ _ | refine blk_drew ?_ | refine blk_alloc ?_ _)); refine blk_put (cs := #[.int .i64 t247, .int .i64 0, .int .i64 (wrap64 (-t247)), .int .i64 0]) ?_ 3 _ rfl; (with_reducible repeat (first | refine blk_drewN ?_ _ | refine blk_drew ?_ | refine blk_alloc ?_ _)); refine blk_put (cs := #[.int .i64 t247, .int .i64 0, .int .i64 0, .int .i64 0]) ?_ 2 _ rfl; (with_reducible repeat (first | refine blk_drewN ?_ _ | refine blk_drew ?_ | refine blk_alloc ?_ _)); exact BK246.out) k_ hk)); (case aO => exact (by (with_reducible repeat (first | apply Kd.R_alloc | apply Kd.R_drewN | apply Kd.R_drew)); exact Kd.R_mono (Kd.R_far (p := ⟨gb246, 3, none⟩) (Kd.R_far (p := ⟨gb246, 2, none⟩) (Kd.R_mono HO_9.out (fun k_ hk => (⟨hk, hk⟩ : _ ∧ k_ ≠ gb246))) (fun _ hk => hk.2) (.int .i64 (wrap64 (-t247)))) (fun _ hk => hk.2) (.int .i64 (wrap64 (x10_2 - (wrap64 (-t247)))))) (fun _ hk => hk.1))); (case aS => exact (below_size (by repeat (first | (with_reducible first | exact HB.out | apply below_alloc | apply pw_below_drewN | apply below_drew1 | refine below_set ?_ GE235.out | refine below_set ?_ GE246.out) | exact HB.out)))); (case aL => have := LMc125.out; omega); intro v266 w128 ho hb hg hat; rw [← Ny265.out] at ho; have n0_ := Aside0.mk (Kd.R_over' (by (with_reducible repeat (first | apply Kd.R_alloc | apply Kd.R_drewN | apply Kd.R_drew)); exact (Kd.R_mono (Kd.R_far (p := ⟨gb246, 3, none⟩) (Kd.R_far (p := ⟨gb246, 2, none⟩) (Kd.R_types HO_7.out BK246.out (by decide)) (fun _ hk => hk.2) (.int .i64 (wrap64 (-t247)))) (fun _ hk => hk.2) (.int .i64 (wrap64 (x10_2 - (wrap64 (-t247)))))) (fun _ h_ => h_.1))) (Kd.R_typed (by (with_reducible repeat (first | apply Kd.R_alloc | apply Kd.R_drewN | apply Kd.R_drew)); exact (Kd.R_mono (Kd.R_far (p := ⟨gb246, 3, none⟩) (Kd.R_far (p := ⟨gb246, 2, none⟩) (Kd.R_mono HO_9.out (fun k_ hk => (⟨hk, hk⟩ : _ ∧ k_ ≠ gb246))) (fun _ hk => hk.2) (.int .i64 (wrap64 (-t247)))) (fun _ hk => hk.2) (.int .i64 (wrap64 (x10_2 - (wrap64 (-t247)))))) (fun _ h_ => h_.1)))) (by decide) hg); have n1_ := Aside0.mk (blk_grown (g := gb235) (o := .cells #[.int .i64 a0_0, .int .i64 a0_1, .slice A0_2 l0_2.length c0_2, .int .i64 a0_3] 24 (0, 0)) (by (with_reducible repeat (first | refine blk_drewN ?_ _ | refine blk_drew ?_ | refine blk_alloc ?_ _)); refine blk_far ?_ NB235_246.out _; (with_reducible repeat (first | refine blk_drewN ?_ _ | refine blk_drew ?_ | refine blk_alloc ?_ _)); refine blk_far ?_ NB235_246.out _; (with_reducible repeat (first | refine blk_drewN ?_ _ | refine blk_drew ?_ | refine blk_alloc ?_ _)); exact BK235.out) hg (Kd.R_ne HO_9.out BK235.out (by decide))); have n2_ := Aside0.mk (blk_grown (g := gb246) (o := .cells #[.int .i64 t247, .int .i64 0, .int .i64 (wrap64 (-t247)), .int .i64 (wrap64 (x10_2 - (wrap64 (-t247))))] 59 (0, 0)) (by (with_reducible repeat (first | refine blk_drewN ?_ _ | refine blk_drew ?_ | refine blk_alloc ?_ _)); refine blk_put (cs := #[.int .i64 t247, .int .i64 0, .int .i64 (wrap64 (-t247)), .int .i64 0]) ?_ 3 _ rfl; (with_reducible repeat (first | refine blk_drewN ?_ _ | refine blk_drew ?_ | refine blk_alloc ?_ _)); refine blk_put (cs := #[.int .i64 t247, .int .i64 0, .int .i64 0, .int .i64 0]) ?_ 2 _ rfl; (with_reducible repeat (first | refine blk_drewN ?_ _ | refine blk_drew ?_ | refine blk_alloc ?_ _)); exact BK246.out) hg (Kd.R_away HO_9.out (fun _ hk => hk))); have n3_ := Aside0.mk (hb); have n4_ := Aside0.mk (ho); clear HO_7; clear BK235; clear BK246; clear HB; clear HO_9; have HO_7 := n0_; have BK235 := n1_; have BK246 := n2_; have HB := n3_; have HO267 := n4_; clear n0_ n1_ n2_ n3_ n4_; clear ho hb hg hat))
                     go_roundg kj42
                     case measure => have := HK1.out; have := HK2.out; have := HJ25.out; have := HJ42.out; omega
                     case rel => exact ⟨(y265), (wrap64 (x10_2 - (wrap64 (-t247)))), (x11_42), (wrap64 (x12_2 + 1)), (by first | rfl | (simp; done) | (simp [*]; done)), (by first | rfl | (simp; done) | (simp [*]; done)), (by first | rfl | (simp; done) | (simp [*]; done)), H', ⟨by have := HK1.out; have := HK2.out; have := HJ25.out; have := HJ42.out; omega⟩, ⟨by (try simp only [hl5_1]); (with_reducible repeat (first | apply Kd.R_alloc | apply Kd.R_drewN | apply Kd.R_drew)); exact HO_7.out⟩, ⟨by (try simp only [hl5_1]); (with_reducible repeat (first | apply Kd.R_alloc | apply Kd.R_drewN | apply Kd.R_drew)); exact Kd.R_mono HO267.out (fun _ hk => trivial)⟩, ⟨by (try simp only [hl5_1]); (with_reducible repeat (first | refine blk_drewN ?_ _ | refine blk_drew ?_ | refine blk_alloc ?_ _)); exact BK235.out⟩, ⟨by repeat (first | (with_reducible first | exact HB.out | apply below_alloc | apply pw_below_drewN | apply below_drew1 | refine below_set ?_ GE235.out | refine below_set ?_ GE246.out) | exact HB.out)⟩⟩
                    ·rw [if_neg c125] at H
                     exact absurd H (by simp)
         ·rw [if_neg c23] at H
          have c23b0 : decide (x12_2 < a0_3) = false := decide_eq_false c23
          clear c23
          simp only [Option.some.injEq, Prod.mk.injEq] at H
          obtain ⟨rfl, rfl⟩ := H
          have hcz129_0 := (blk_cell BK235.out 0).trans rfl
          have hcz129_1 := (blk_cell BK235.out 1).trans rfl
          have hcz129_2 := (blk_cell BK235.out 2).trans rfl
          have hcz129_3 := (blk_cell BK235.out 3).trans rfl
          have hfz129_0 := blk_frozen BK235.out 0
          have hfz129_1 := blk_frozen BK235.out 1
          have hfz129_2 := blk_frozen BK235.out 2
          have hfz129_3 := blk_frozen BK235.out 3
          go_wp2
          go_ret2
          exact ⟨_, by first | rfl | (simp [errW_none, errW_some] <;> rfl) | (simp [*, errW_none, errW_some] <;> rfl), by (with_reducible repeat (first | apply Kd.R_alloc | apply Kd.R_drewN | apply Kd.R_drew)); exact HO_9.out, by repeat (first | (with_reducible first | exact HB.out | apply below_alloc | apply pw_below_drewN | apply below_drew1 | refine below_set ?_ GE235.out) | exact HB.out)⟩
   ·rw [if_neg c5] at H
    exact absurd H (by simp)
  ·rw [if_neg c4] at H
   exact absurd H (by simp)
 ·rw [if_neg c3] at H
  have c3b0 : (t236 == 0) = false := beq_eq_false_iff_ne.mpr c3
  have c3b1 : (t236 != 0) = true := bne_iff_ne.mpr c3
  simp only [Option.some.injEq, Prod.mk.injEq] at H
  obtain ⟨rfl, rfl⟩ := H
  go_enter Try.func12, Try.ntmps12
  go_wp2_with (first | ((with_reducible refine gate_dst (N := 1) rfl ?_); refine box_event ?hg (N := 1) ?hd (cs := #[.int .i64 a0_0, .int .i64 a0_1, .slice A0_2 l0_2.length c0_2, .int .i64 a0_3]) (t := 24) ?hr ?_; (case hd => rfl); (case hg => rfl); (case hr => first | (go_simp; done) | (go_simp; rfl)); intro gb235 hg w130 hbox hb; have n0_ := Aside0.mk (below_step (by repeat (first | (with_reducible first | exact HB.out | apply below_alloc | apply pw_below_drewN | apply below_drew1) | exact HB.out)) hb); have n1_ := Aside0.mk (hbox); have n2_ := Aside0.mk ((by rw [hg]; exact (below_size (by repeat (first | (with_reducible first | exact HB.out | apply below_alloc | apply pw_below_drewN | apply below_drew1) | exact HB.out))) : w.heap.size ≤ gb235)); have n3_ := Aside0.mk ((by rw [hg]; exact (below_size (by repeat (first | (with_reducible first | exact HB.out | apply below_alloc | apply pw_below_drewN | apply below_drew1) | exact HB.out))) : w.heap.size ≤ gb235)); clear HB; have HB := n0_; have BK235 := n1_; have GW235 := n2_; have GE235 := n3_; clear n0_ n1_ n2_ n3_; clear hb hbox hg; have hcz131_0 := (blk_cell BK235.out 0).trans rfl; have hcz131_1 := (blk_cell BK235.out 1).trans rfl; have hcz131_2 := (blk_cell BK235.out 2).trans rfl; have hcz131_3 := (blk_cell BK235.out 3).trans rfl; have hfz131_0 := blk_frozen BK235.out 0; have hfz131_1 := blk_frozen BK235.out 1; have hfz131_2 := blk_frozen BK235.out 2; have hfz131_3 := blk_frozen BK235.out 3) | ((with_reducible refine gate_callee (f := 16) rfl ?_); refine goesL_ (some 16) rfl rfl Try.func16 (by kernel_rfl) rfl #[.agg #[.int .i64 a0_0, .int .i64 a0_1, .slice A0_2 l0_2.length c0_2, .int .i64 a0_3]] rfl (by (try simp only [List.map_toArray, List.map_cons, List.map_nil]); first | done | rfl | (simp only [List.length_drop, List.length_take]; rfl)) ?_; (with_reducible refine (lombardref08_Check.calls k a0_0 a0_1 _ _ l0_2 a0_3 t236 _ ?side1 ?side2 A2.out).mono ?_); (case side1 => repeat (first | exact (Kd.C_below HR0_2.out HB.out) | (with_reducible refine Kd.C_alloc ?_ _) | (with_reducible refine Kd.C_drewN ?_ _) | (with_reducible refine Kd.C_drew ?_))); (case side2 => exact HC0_2.out); rintro e w132 ⟨rfl, hb⟩; refine ⟨_, rfl, ?_⟩; have n0_ := Aside0.mk (blk_below (g := gb235) (o := .cells #[.int .i64 a0_0, .int .i64 a0_1, .slice A0_2 l0_2.length c0_2, .int .i64 a0_3] 24 (0, 0)) (by (with_reducible repeat (first | refine blk_drewN ?_ _ | refine blk_drew ?_ | refine blk_alloc ?_ _)); exact BK235.out) hb); have n1_ := Aside0.mk (below_step (by repeat (first | (with_reducible first | exact HB.out | apply below_alloc | apply pw_below_drewN | apply below_drew1 | refine below_set ?_ GE235.out) | exact HB.out)) hb); clear BK235; clear HB; have BK235 := n0_; have HB := n1_; clear n0_ n1_; (try clear hb); (try clear hb2); (try clear hk); (try clear hi)))
  go_ret2
  exact ⟨_, by first | rfl | (simp [errW_none, errW_some] <;> rfl) | (simp [*, errW_none, errW_some] <;> rfl), by first | exact Kd.R_nil _ _ _ _ _ | exact Kd.N_nil _ _ _ _ _ | exact Kd.V_nil _ _ _ _ _ | exact Kd.Q_nil _ _ _ _ _ | exact Kd.S_nil _ _ _ _ _, by repeat (first | (with_reducible first | exact HB.out | apply below_alloc | apply pw_below_drewN | apply below_drew1 | refine below_set ?_ GE235.out) | exact HB.out)⟩

end Go.Proofs.Ytchpeobenlnemaa.S
end
