/- Printed by a program of this session out of the translation: what each function called here computes, and that its call comes to just that. Conditions: none beyond those that each theorem names. -/
import Derived.Test.YtchpeobenlnemaaSx0
import Derived.Test.YtchpeobenlnemaaSxLombardref01May
import Derived.Test.YtchpeobenlnemaaSxLombardref01Part
namespace Go.Proofs.Ytchpeobenlnemaa.S
open Go.RowKit Go.Proofs.YtchpeobenlnemaaW.PrintWords Go.Proofs.YtchpeobenlnemaaW.PrintLast Go.Proofs.YtchpeobenlnemaaW.PrintMore
attribute [local go_sem] max2_int min2_int max_two min_two max_three min_three max_four min_four   -- for this text's walks alone
attribute [local go_sem] Go.Proofs.Ytchpeobenlnemaa.XWalk.cell2
set_option linter.unusedVariables false
set_option linter.unusedSimpArgs false

/-! ### lombardref01_Split: function 28 -/
mutual
def lombardref01_Split.l0 : Nat → Int → List Int → Int → List Int → Int → Int → Option (List Int × Int)
 | 0, _, _, _, _, _, _ => none
 | k + 1, x0, x1, x6, x16, x17, x18 => if x18 < x17 then (if 0 ≤ x18 then (if x18 < (x16.length : Int) then (if (rd x16 x18) < 0 then (lombardref01_Split.j1 k x0 x1 x6 (rd x16 x18) x16 x17 x18 true) else ((lombardref01_May.f (rd x16 x18)).bind fun t220 => (lombardref01_Split.j1 k x0 x1 x6 (rd x16 x18) x16 x17 x18 (!t220)))) else (none)) else (none)) else (if x6 = 0 then (lombardref01_Split.j2 k x0 x1 x6 true) else ((lombardref01_May.f x0).bind fun t221 => (lombardref01_Split.j2 k x0 x1 x6 (!t221))))
def lombardref01_Split.j1 : Nat → Int → List Int → Int → Int → List Int → Int → Int → Bool → Option (List Int × Int)
 | 0, _, _, _, _, _, _, _, _ => none
 | k + 1, x0, x1, x6, x8, x16, x17, x18, x28 => if x28 = true then (some (([] : List Int), 2)) else (if (x1.length : Int) > 600 then (some (([] : List Int), 2)) else (lombardref01_Split.l0 k x0 x1 (wrap64 (x6 + x8)) x16 x17 (wrap64 (x18 + 1))))
def lombardref01_Split.j2 : Nat → Int → List Int → Int → Bool → Option (List Int × Int)
 | 0, _, _, _, _ => none
 | k + 1, x0, x1, x6, x42 => if x42 = true then (some (([] : List Int), 2)) else (lombardref01_Split.l1 k x0 x1 x6 ([] : List Int) x0 x1 (x1.length : Int) 0)
def lombardref01_Split.l1 : Nat → Int → List Int → Int → List Int → Int → List Int → Int → Int → Option (List Int × Int)
 | 0, _, _, _, _, _, _, _, _ => none
 | k + 1, x0, x1, x6, x9, x10, x44, x45, x46 => if x46 < x45 then (if 0 ≤ x46 then (if x46 < (x44.length : Int) then ((lombardref01_part.f k x0 (rd x44 x46) x6).bind fun t223 => (if x9.length < 17592186044416 then (lombardref01_Split.l1 k x0 x1 x6 (x9 ++ [t223]) (wrap64 (x10 - t223)) x44 x45 (wrap64 (x46 + 1))) else (none))) else (none)) else (none)) else (lombardref01_Split.l2 k x1 x9 x10)
def lombardref01_Split.l2 : Nat → List Int → List Int → Int → Option (List Int × Int)
 | 0, _, _, _ => none
 | k + 1, x1, x9, x10 => if x10 = 0 then (some (x9, 0)) else (lombardref01_Split.l3 k x1 x9 x10 x1 (x1.length : Int) 0)
def lombardref01_Split.l3 : Nat → List Int → List Int → Int → List Int → Int → Int → Option (List Int × Int)
 | 0, _, _, _, _, _, _ => none
 | k + 1, x1, x9, x10, x64, x65, x66 => if x66 < x65 then (if 0 ≤ x66 then (if x66 < (x64.length : Int) then (if (rd x64 x66) = 0 then (lombardref01_Split.j6 k x1 x9 x10 x66 (rd x64 x66) x64 x65 x66 false) else (lombardref01_Split.j6 k x1 x9 x10 x66 (rd x64 x66) x64 x65 x66 (decide (x10 > 0)))) else (none)) else (none)) else (lombardref01_Split.l2 k x1 x9 x10)
def lombardref01_Split.j6 : Nat → List Int → List Int → Int → Int → Int → List Int → Int → Int → Bool → Option (List Int × Int)
 | 0, _, _, _, _, _, _, _, _, _ => none
 | k + 1, x1, x9, x10, x14, x15, x64, x65, x66, x76 => if x76 = true then (if 0 ≤ x14 then (if x14 < (x9.length : Int) then (lombardref01_Split.l3 k x1 (x9.set (x14 : Int).toNat (wrap64 ((rd x9 x14) + 1))) (wrap64 (x10 - 1)) x64 x65 (wrap64 (x66 + 1))) else (none)) else (none)) else (if x15 = 0 then (lombardref01_Split.l3 k x1 x9 x10 x64 x65 (wrap64 (x66 + 1))) else (if x10 < 0 then (if 0 ≤ x14 then (if x14 < (x9.length : Int) then (lombardref01_Split.l3 k x1 (x9.set (x14 : Int).toNat (wrap64 ((rd x9 x14) - 1))) (wrap64 (x10 + 1)) x64 x65 (wrap64 (x66 + 1))) else (none)) else (none)) else (lombardref01_Split.l3 k x1 x9 x10 x64 x65 (wrap64 (x66 + 1)))))
end
def lombardref01_Split.f (k : Nat) (a0 : Int) (l1 : List Int) : Option (List Int × Int) := lombardref01_Split.l0 k a0 l1 0 l1 (l1.length : Int) 0
set_option maxHeartbeats 8000000 in
set_option maxRecDepth 100000 in
theorem lombardref01_Split.calls (k : Nat) (a0 : Int) (A1 : Option Addr) (c1 : Nat) (l1 : List Int) (r1 : List Int) (r2 : Int) (w : World) (hr1 : Kd.C (Kd.int .i64) w A1 l1.length l1) (hc1 : l1.length ≤ c1) (h : lombardref01_Split.f k a0 l1 = some (r1, r2)) :
  Calls Try.prog 28 #[.int .i64 a0, .slice A1 l1.length c1] w fun e w' => ∃ v0_ : Value, e = .returned (.tuple #[v0_, .int .i64 r2]) ∧ Kd.R (Kd.int .i64) 2 w' w.heap.size (fun _ => True) v0_ r1 ∧ Below w.heap.size w w' := by
 have HR1 := Aside0.mk hr1
 have HC1 := Aside0.mk hc1
 clear hr1 hc1
 have HB := Aside0.mk (Below.refl w.heap.size w)
 have H : (lombardref01_Split.l0 k a0 l1 0 l1 (l1.length : Int) 0) = some (r1, r2) := h
 clear h
 have H' := Aside0.mk H
 clear H
 go_enter Try.func28, Try.ntmps28
 go_wp2
 go_loopg [6, 18] k (fun kq v6 v18 w' => ∃ (x6_1 : Int) (x18_1 : Int), v6 = .int .i64 x6_1 ∧ v18 = .int .i64 x18_1 ∧ Aside0 (lombardref01_Split.l0 kq a0 l1 x6_1 l1 (l1.length : Int) x18_1 = some (r1, r2)) ∧ Aside0 (kq ≤ k) ∧ Aside0 (Below w.heap.size w w'))
 case atStart => exact ⟨(0), (0), (by first | rfl | (simp; done) | (simp [*]; done)), (by first | rfl | (simp; done) | (simp [*]; done)), H', ⟨Nat.le_refl _⟩, ⟨by repeat (first | (with_reducible first | exact HB.out | apply below_alloc | apply pw_below_drewN | apply below_drew1) | exact HB.out)⟩⟩
 case round =>
  clear H'
  repeat first | clear c1 | clear c2 | clear p2
  obtain ⟨x6_1, x18_1, rfl, rfl, HA, HK1, HB⟩ := hrel
  cases gk with
  | zero => exact absurd HA.out (by simp [lombardref01_Split.l0])
  | succ k1 =>
   have H := HA.out
   clear HA
   simp only [lombardref01_Split.l0] at H
   by_cases c3 : x18_1 < (l1.length : Int)
   ·rw [if_pos c3] at H
    have c3b0 : decide (x18_1 < (l1.length : Int)) = true := decide_eq_true c3
    clear c3
    by_cases c4 : 0 ≤ x18_1
    ·rw [if_pos c4] at H
     have c4b0 : decide (0 ≤ x18_1) = true := decide_eq_true c4
     clear c4
     by_cases c5 : x18_1 < (l1.length : Int)
     ·rw [if_pos c5] at H
      have c5b0 : decide (x18_1 < (l1.length : Int)) = true := decide_eq_true c5
      clear c5
      have HC6 := Aside0.mk H
      clear H
      have p219 : 0 ≤ (x18_1 : Int) := of_decide_eq_true (by first | (with_reducible assumption) | assumption)
      have q219 : x18_1 < (l1.length : Int) := of_decide_eq_true (by first | (with_reducible assumption) | assumption)
      obtain ⟨ad219, e219, hx219_0⟩ := Kd.at_int HR1.out x18_1 p219 q219
      cases e219
      try replace hx219_0 := (HB.out.cell (World.block_lt_of_cell? w _ hx219_0)).trans hx219_0
      replace p219 := eq_true p219
      replace q219 := eq_true q219
      go_upto_region 5 with (fail)
      go_cut [28] (fun v28 wc => ∃ (kq : Nat) (x28_5 : Bool), v28 = .bool x28_5 ∧ Aside0 (lombardref01_Split.j1 kq a0 l1 x6_1 (rd l1 x18_1) l1 (l1.length : Int) x18_1 x28_5 = some (r1, r2)) ∧ Aside0 (kq ≤ k1) ∧ Aside0 (Below w.heap.size w wc))
      case first =>
       have H := HC6.out
       clear HC6
       by_cases c7 : (rd l1 x18_1) < 0
       ·rw [if_pos c7] at H
        have c7b0 : decide ((rd l1 x18_1) < 0) = true := decide_eq_true c7
        clear c7
        (first | rw [c7b0] | (simp only [i64_w, i32_w]; rw [c7b0]) | skip)
        have H' := Aside0.mk H
        clear H
        go_wp2
        go_meet
        case rel => exact ⟨_, (true), (by first | rfl | (simp; done) | (simp [*]; done)), H', ⟨by have := HK1.out; first | omega | exact Nat.le_refl _⟩, ⟨by repeat (first | (with_reducible first | exact HB.out | apply below_alloc | apply pw_below_drewN | apply below_drew1) | exact HB.out)⟩⟩
       ·rw [if_neg c7] at H
        have c7b0 : decide ((rd l1 x18_1) < 0) = false := decide_eq_false c7
        clear c7
        (first | rw [c7b0] | (simp only [i64_w, i32_w]; rw [c7b0]) | skip)
        replace H := Option.bind_eq_some_iff.mp H
        obtain ⟨t220, A80, H⟩ := H
        replace H : (lombardref01_Split.j1 k1 a0 l1 x6_1 (rd l1 x18_1) l1 (l1.length : Int) x18_1 (!t220)) = some (r1, r2) := H
        have A8 := Aside0.mk A80
        clear A80
        have H' := Aside0.mk H
        clear H
        go_wp2_with (first | (go_at_call 46; (with_reducible refine (lombardref01_May.calls (rd l1 x18_1) t220 _ A8.out).mono ?_); rintro e w' ⟨rfl, ⟨nd, rfl⟩⟩))
        go_meet
        case rel => exact ⟨_, (!t220), (by first | rfl | (simp; done) | (simp [*]; done)), H', ⟨by have := HK1.out; first | omega | exact Nat.le_refl _⟩, ⟨by repeat (first | (with_reducible first | exact HB.out | apply below_alloc | apply pw_below_drewN | apply below_drew1) | exact HB.out)⟩⟩
      case rest =>
       clear HC6
       repeat first | clear c1 | clear c2 | clear p2 | clear q2 | clear hx2 | clear c3 | clear c3b0 | clear c4 | clear c4b0 | clear c5 | clear c5b0 | clear c7 | clear c7b0 | clear hx219_0 | clear p2 | clear p219 | clear q219
       obtain ⟨kq, x28_5, rfl, HA, HJ5, HB⟩ := hcut
       cases kq with
       | zero => exact absurd HA.out (by simp [lombardref01_Split.j1])
       | succ kj5 =>
        have H := HA.out
        clear HA
        simp only [lombardref01_Split.j1] at H
        by_cases c9 : x28_5 = true
        ·subst c9
         have H1 : (some (([] : List Int), 2)) = some (r1, r2) := by rw [if_pos rfl] at H; exact H
         clear H
         have H := H1
         clear H1
         simp only [Option.some.injEq, Prod.mk.injEq] at H
         obtain ⟨rfl, rfl⟩ := H
         go_wp2
         go_ret2
         exact ⟨_, by first | rfl | (simp [errW_none, errW_some] <;> rfl) | (simp [*, errW_none, errW_some] <;> rfl), by first | exact Kd.R_nil _ _ _ _ _ | exact Kd.N_nil _ _ _ _ _ | exact Kd.V_nil _ _ _ _ _ | exact Kd.Q_nil _ _ _ _ _ | exact Kd.S_nil _ _ _ _ _, by repeat (first | (with_reducible first | exact HB.out | apply below_alloc | apply pw_below_drewN | apply below_drew1) | exact HB.out)⟩
        ·replace c9 := Bool.eq_false_iff.mpr c9
         subst c9
         have H1 : (if (l1.length : Int) > 600 then (some (([] : List Int), 2)) else (lombardref01_Split.l0 kj5 a0 l1 (wrap64 (x6_1 + (rd l1 x18_1))) l1 (l1.length : Int) (wrap64 (x18_1 + 1)))) = some (r1, r2) := by rw [if_neg (show ¬ (false = true) by decide)] at H; exact H
         clear H
         have H := H1
         clear H1
         by_cases c10 : (l1.length : Int) > 600
         ·rw [if_pos c10] at H
          have c10b0 : decide (600 < (l1.length : Int)) = true := decide_eq_true c10
          have c10b1 : decide (600 < l1.length) = true := decide_eq_true (by omega)
          clear c10
          simp only [Option.some.injEq, Prod.mk.injEq] at H
          obtain ⟨rfl, rfl⟩ := H
          go_wp2
          go_ret2
          exact ⟨_, by first | rfl | (simp [errW_none, errW_some] <;> rfl) | (simp [*, errW_none, errW_some] <;> rfl), by first | exact Kd.R_nil _ _ _ _ _ | exact Kd.N_nil _ _ _ _ _ | exact Kd.V_nil _ _ _ _ _ | exact Kd.Q_nil _ _ _ _ _ | exact Kd.S_nil _ _ _ _ _, by repeat (first | (with_reducible first | exact HB.out | apply below_alloc | apply pw_below_drewN | apply below_drew1) | exact HB.out)⟩
         ·rw [if_neg c10] at H
          have c10b0 : decide (600 < (l1.length : Int)) = false := decide_eq_false c10
          have c10b1 : decide (600 < l1.length) = false := decide_eq_false (by omega)
          clear c10
          have H' := Aside0.mk H
          clear H
          go_wp2
          go_roundg kj5
          case measure => have := HK1.out; have := HJ5.out; omega
          case rel => exact ⟨(wrap64 (x6_1 + (rd l1 x18_1))), (wrap64 (x18_1 + 1)), (by first | rfl | (simp; done) | (simp [*]; done)), (by first | rfl | (simp; done) | (simp [*]; done)), H', ⟨by have := HK1.out; have := HJ5.out; omega⟩, ⟨by repeat (first | (with_reducible first | exact HB.out | apply below_alloc | apply pw_below_drewN | apply below_drew1) | exact HB.out)⟩⟩
     ·rw [if_neg c5] at H
      exact absurd H (by simp)
    ·rw [if_neg c4] at H
     exact absurd H (by simp)
   ·rw [if_neg c3] at H
    have c3b0 : decide (x18_1 < (l1.length : Int)) = false := decide_eq_false c3
    clear c3
    have HC11 := Aside0.mk H
    clear H
    go_upto_region 11 with (fail)
    go_cut [42] (fun v42 wc => ∃ (kq : Nat) (x42_10 : Bool), v42 = .bool x42_10 ∧ Aside0 (lombardref01_Split.j2 kq a0 l1 x6_1 x42_10 = some (r1, r2)) ∧ Aside0 (kq ≤ k1) ∧ Aside0 (Below w.heap.size w wc))
    case first =>
     have H := HC11.out
     clear HC11
     by_cases c12 : x6_1 = 0
     ·rw [if_pos c12] at H
      have c12b0 : (x6_1 == 0) = true := beq_iff_eq.mpr c12
      have c12b1 : (x6_1 != 0) = false := bne_eq_false_iff_eq.mpr c12
      clear c12
      (first | rw [c12b0] | (simp only [i64_w, i32_w]; rw [c12b0]) | skip)
      have H' := Aside0.mk H
      clear H
      go_wp2
      go_meet
      case rel => exact ⟨_, (true), (by first | rfl | (simp; done) | (simp [*]; done)), H', ⟨by have := HK1.out; first | omega | exact Nat.le_refl _⟩, ⟨by repeat (first | (with_reducible first | exact HB.out | apply below_alloc | apply pw_below_drewN | apply below_drew1) | exact HB.out)⟩⟩
     ·rw [if_neg c12] at H
      have c12b0 : (x6_1 == 0) = false := beq_eq_false_iff_ne.mpr c12
      have c12b1 : (x6_1 != 0) = true := bne_iff_ne.mpr c12
      (first | rw [c12b0] | (simp only [i64_w, i32_w]; rw [c12b0]) | skip)
      replace H := Option.bind_eq_some_iff.mp H
      obtain ⟨t221, A130, H⟩ := H
      replace H : (lombardref01_Split.j2 k1 a0 l1 x6_1 (!t221)) = some (r1, r2) := H
      have A13 := Aside0.mk A130
      clear A130
      have H' := Aside0.mk H
      clear H
      go_wp2_with (first | (go_at_call 46; (with_reducible refine (lombardref01_May.calls a0 t221 _ A13.out).mono ?_); rintro e w' ⟨rfl, ⟨nd, rfl⟩⟩))
      go_meet
      case rel => exact ⟨_, (!t221), (by first | rfl | (simp; done) | (simp [*]; done)), H', ⟨by have := HK1.out; first | omega | exact Nat.le_refl _⟩, ⟨by repeat (first | (with_reducible first | exact HB.out | apply below_alloc | apply pw_below_drewN | apply below_drew1) | exact HB.out)⟩⟩
    case rest =>
     clear HC11
     repeat first | clear c1 | clear c2 | clear p2 | clear q2 | clear hx2 | clear c3 | clear c3b0 | clear c4 | clear c4b0 | clear c5 | clear c5b0 | clear p6 | clear c7 | clear c7b0 | clear c9 | clear c10 | clear c10b0 | clear c10b1 | clear c12 | clear c12b0 | clear c12b1 | clear hx219_0 | clear p2 | clear p219 | clear q2 | clear q219
     obtain ⟨kq, x42_10, rfl, HA, HJ10, HB⟩ := hcut
     cases kq with
     | zero => exact absurd HA.out (by simp [lombardref01_Split.j2])
     | succ kj10 =>
      have H := HA.out
      clear HA
      simp only [lombardref01_Split.j2] at H
      by_cases c14 : x42_10 = true
      ·subst c14
       have H1 : (some (([] : List Int), 2)) = some (r1, r2) := by rw [if_pos rfl] at H; exact H
       clear H
       have H := H1
       clear H1
       simp only [Option.some.injEq, Prod.mk.injEq] at H
       obtain ⟨rfl, rfl⟩ := H
       go_wp2
       go_ret2
       exact ⟨_, by first | rfl | (simp [errW_none, errW_some] <;> rfl) | (simp [*, errW_none, errW_some] <;> rfl), by first | exact Kd.R_nil _ _ _ _ _ | exact Kd.N_nil _ _ _ _ _ | exact Kd.V_nil _ _ _ _ _ | exact Kd.Q_nil _ _ _ _ _ | exact Kd.S_nil _ _ _ _ _, by repeat (first | (with_reducible first | exact HB.out | apply below_alloc | apply pw_below_drewN | apply below_drew1) | exact HB.out)⟩
      ·replace c14 := Bool.eq_false_iff.mpr c14
       subst c14
       have H1 : (lombardref01_Split.l1 kj10 a0 l1 x6_1 ([] : List Int) a0 l1 (l1.length : Int) 0) = some (r1, r2) := by rw [if_neg (show ¬ (false = true) by decide)] at H; exact H
       clear H
       have H := H1
       clear H1
       have H' := Aside0.mk H
       clear H
       go_wp2
       go_loopg [9, 10, 46] kj10 (fun kq v9 v10 v46 w' => ∃ (x9_3 : List Int) (x10_3 : Int) (x46_3 : Int), v10 = .int .i64 x10_3 ∧ v46 = .int .i64 x46_3 ∧ Aside0 (lombardref01_Split.l1 kq a0 l1 x6_1 x9_3 x10_3 l1 (l1.length : Int) x46_3 = some (r1, r2)) ∧ Aside0 (kq ≤ kj10) ∧ Aside0 (Kd.R (Kd.int .i64) 2 w' w.heap.size (fun _ => True) v9 x9_3) ∧ Aside0 (Below w.heap.size w w'))
       case atStart => exact ⟨(([] : List Int)), (a0), (0), (by first | rfl | (simp; done) | (simp [*]; done)), (by first | rfl | (simp; done) | (simp [*]; done)), H', ⟨Nat.le_refl _⟩, ⟨by first | exact Kd.R_nil _ _ _ _ _ | exact Kd.N_nil _ _ _ _ _ | exact Kd.V_nil _ _ _ _ _ | exact Kd.Q_nil _ _ _ _ _ | exact Kd.S_nil _ _ _ _ _⟩, ⟨by repeat (first | (with_reducible first | exact HB.out | apply below_alloc | apply pw_below_drewN | apply below_drew1) | exact HB.out)⟩⟩
       case round =>
        clear H'
        repeat first | clear c1 | clear c2 | clear p2 | clear q2 | clear hx2 | clear c3 | clear c3b0 | clear c4 | clear c4b0 | clear c5 | clear c5b0 | clear p6 | clear c7 | clear c7b0 | clear c9 | clear c10 | clear c10b0 | clear c10b1 | clear c12 | clear c12b0 | clear c12b1 | clear c14 | clear hx219_0 | clear p2 | clear p219 | clear p6 | clear q2 | clear q219
        obtain ⟨x9_3, x10_3, x46_3, rfl, rfl, HA, HK3, HO_9, HB⟩ := hrel
        cases gk with
        | zero => exact absurd HA.out (by simp [lombardref01_Split.l1])
        | succ k3 =>
         have H := HA.out
         clear HA
         simp only [lombardref01_Split.l1] at H
         by_cases c15 : x46_3 < (l1.length : Int)
         ·rw [if_pos c15] at H
          have c15b0 : decide (x46_3 < (l1.length : Int)) = true := decide_eq_true c15
          clear c15
          by_cases c16 : 0 ≤ x46_3
          ·rw [if_pos c16] at H
           have c16b0 : decide (0 ≤ x46_3) = true := decide_eq_true c16
           clear c16
           by_cases c17 : x46_3 < (l1.length : Int)
           ·rw [if_pos c17] at H
            have c17b0 : decide (x46_3 < (l1.length : Int)) = true := decide_eq_true c17
            clear c17
            replace H := Option.bind_eq_some_iff.mp H
            obtain ⟨t223, A180, H⟩ := H
            replace H : (if x9_3.length < 17592186044416 then (lombardref01_Split.l1 k3 a0 l1 x6_1 (x9_3 ++ [t223]) (wrap64 (x10_3 - t223)) l1 (l1.length : Int) (wrap64 (x46_3 + 1))) else (none)) = some (r1, r2) := H
            have A18 := Aside0.mk A180
            clear A180
            by_cases c19 : x9_3.length < 17592186044416
            ·rw [if_pos c19] at H
             have LMc19 := Aside0.mk c19
             clear c19
             obtain ⟨y224, hy224⟩ : ∃ y_ : List Int, y_ = (x9_3 ++ [t223]) := ⟨_, rfl⟩
             replace H : (lombardref01_Split.l1 k3 a0 l1 x6_1 y224 (wrap64 (x10_3 - t223)) l1 (l1.length : Int) (wrap64 (x46_3 + 1))) = some (r1, r2) := by first | (rw [hy224]; with_reducible exact H) | (have H2_ := (Option.bind_some _ _).symm.trans H; rw [hy224]; with_reducible exact H2_) | (have H2_ := (Option.bind_some _ _).symm.trans H; with_reducible exact H2_) | with_reducible exact H | (rw [hy224]; exact H) | exact H
             have Ny224 := Aside0.mk hy224
             clear hy224
             have H' := Aside0.mk H
             clear H
             have p222 : 0 ≤ (x46_3 : Int) := of_decide_eq_true (by first | (with_reducible assumption) | assumption)
             have q222 : x46_3 < (l1.length : Int) := of_decide_eq_true (by first | (with_reducible assumption) | assumption)
             obtain ⟨ad222, e222, hx222_0⟩ := Kd.at_int HR1.out x46_3 p222 q222
             cases e222
             try replace hx222_0 := (HB.out.cell (World.block_lt_of_cell? w _ hx222_0)).trans hx222_0
             replace p222 := eq_true p222
             replace q222 := eq_true q222
             go_wp2_with (first | ((with_reducible refine gate_callee (f := 47) rfl ?_); refine goesL_ (some 53) rfl rfl Try.func47 (by kernel_rfl) rfl #[.int .i64 a0, .int .i64 (rd l1 x46_3), .int .i64 x6_1] rfl (by (try simp only [List.map_toArray, List.map_cons, List.map_nil]); first | done | rfl | (simp only [List.length_drop, List.length_take]; rfl)) ?_; (with_reducible refine (lombardref01_part.calls k3 a0 (rd l1 x46_3) x6_1 t223 _ A18.out).mono ?_); rintro e w20 ⟨rfl, hb⟩; refine ⟨_, rfl, ?_⟩; have n0_ := Aside0.mk (Kd.R_below (by (with_reducible repeat (first | apply Kd.R_alloc | apply Kd.R_drewN | apply Kd.R_drew)); exact HO_9.out) hb); have n1_ := Aside0.mk (below_step (by repeat (first | (with_reducible first | exact HB.out | apply below_alloc | apply pw_below_drewN | apply below_drew1) | exact HB.out)) hb); clear HO_9; clear HB; have HO_9 := n0_; have HB := n1_; clear n0_ n1_; (try clear hb); (try clear hb2); (try clear hk); (try clear hi)) | ((with_reducible refine gate_builtin (b := .append) (xs := #[.tmp 54, .tmp 56]) rfl ?_); at_builtin; refine Kd.R_append (Kd.int .i64) (w0 := w) w.heap.size rfl (.tmp 54) (.tmp 56) 22 2 (.int .i64 0) 8 rfl Try.underlying22 info2 rfl (by decide) (by omega) u9 x9_3 t223 [.int .i64 t223] (fun _ => True) (fun _ => False) rfl rfl ?aP (fun _ hk => hk.elim) ?aF ?aO ?aB ?aS ?aL ?_; (case aP => exact rfl); (case aB => exact (by repeat (first | (with_reducible first | exact HB.out | apply below_alloc | apply pw_below_drewN | apply below_drew1) | exact HB.out))); (case aF => exact (fun _ _ => trivial)); (case aO => exact (by (with_reducible repeat (first | apply Kd.R_alloc | apply Kd.R_drewN | apply Kd.R_drew)); exact HO_9.out)); (case aS => exact (below_size (by repeat (first | (with_reducible first | exact HB.out | apply below_alloc | apply pw_below_drewN | apply below_drew1) | exact HB.out)))); (case aL => have := LMc19.out; omega); intro v225 w21 ho hb hg hat; rw [← Ny224.out] at ho; have n0_ := Aside0.mk (hb); have n1_ := Aside0.mk (ho); clear HB; clear HO_9; have HB := n0_; have HO226 := n1_; clear n0_ n1_; clear ho hb hg hat))
             go_roundg k3
             case measure => have := HK1.out; have := HJ10.out; have := HK3.out; omega
             case rel => exact ⟨(y224), (wrap64 (x10_3 - t223)), (wrap64 (x46_3 + 1)), (by first | rfl | (simp; done) | (simp [*]; done)), (by first | rfl | (simp; done) | (simp [*]; done)), H', ⟨by have := HK1.out; have := HJ10.out; have := HK3.out; omega⟩, ⟨by (with_reducible repeat (first | apply Kd.R_alloc | apply Kd.R_drewN | apply Kd.R_drew)); exact HO226.out⟩, ⟨by repeat (first | (with_reducible first | exact HB.out | apply below_alloc | apply pw_below_drewN | apply below_drew1) | exact HB.out)⟩⟩
            ·rw [if_neg c19] at H
             exact absurd H (by simp)
           ·rw [if_neg c17] at H
            exact absurd H (by simp)
          ·rw [if_neg c16] at H
           exact absurd H (by simp)
         ·rw [if_neg c15] at H
          have c15b0 : decide (x46_3 < (l1.length : Int)) = false := decide_eq_false c15
          clear c15
          have H' := Aside0.mk H
          clear H
          go_wp2
          go_loopg [10] k3 (fun kq v10 w' => ∃ (x9_4 : List Int) (x10_4 : Int), v10 = .int .i64 x10_4 ∧ Aside0 (lombardref01_Split.l2 kq l1 x9_4 x10_4 = some (r1, r2)) ∧ Aside0 (kq ≤ k3) ∧ Aside0 (Kd.R (Kd.int .i64) 2 w' w.heap.size (fun _ => True) u9 x9_4) ∧ Aside0 (Below w.heap.size w w'))
          case atStart => exact ⟨(x9_3), (x10_3), (by first | rfl | (simp; done) | (simp [*]; done)), H', ⟨Nat.le_refl _⟩, ⟨by (with_reducible repeat (first | apply Kd.R_alloc | apply Kd.R_drewN | apply Kd.R_drew)); exact HO_9.out⟩, ⟨by repeat (first | (with_reducible first | exact HB.out | apply below_alloc | apply pw_below_drewN | apply below_drew1) | exact HB.out)⟩⟩
          case round =>
           clear H'
           repeat first | clear c1 | clear c2 | clear p2 | clear q2 | clear hx2 | clear c3 | clear c3b0 | clear c4 | clear c4b0 | clear c5 | clear c5b0 | clear p6 | clear c7 | clear c7b0 | clear c9 | clear c10 | clear c10b0 | clear c10b1 | clear c12 | clear c12b0 | clear c12b1 | clear c14 | clear c15 | clear c15b0 | clear c16 | clear c16b0 | clear c17 | clear c17b0 | clear c19 | clear p21 | clear q21 | clear hx21 | clear hx219_0 | clear hx222_0 | clear p2 | clear p219 | clear p222 | clear p6 | clear q2 | clear q219 | clear q222
           obtain ⟨x9_4, x10_4, rfl, HA, HK4, HO_9, HB⟩ := hrel
           cases gk with
           | zero => exact absurd HA.out (by simp [lombardref01_Split.l2])
           | succ k4 =>
            have H := HA.out
            clear HA
            simp only [lombardref01_Split.l2] at H
            by_cases c22 : x10_4 = 0
            ·rw [if_pos c22] at H
             have c22b0 : (x10_4 == 0) = true := beq_iff_eq.mpr c22
             have c22b1 : (x10_4 != 0) = false := bne_eq_false_iff_eq.mpr c22
             clear c22
             simp only [Option.some.injEq, Prod.mk.injEq] at H
             obtain ⟨rfl, rfl⟩ := H
             go_wp2
             go_ret2
             exact ⟨_, by first | rfl | (simp [errW_none, errW_some] <;> rfl) | (simp [*, errW_none, errW_some] <;> rfl), by (with_reducible repeat (first | apply Kd.R_alloc | apply Kd.R_drewN | apply Kd.R_drew)); exact HO_9.out, by repeat (first | (with_reducible first | exact HB.out | apply below_alloc | apply pw_below_drewN | apply below_drew1) | exact HB.out)⟩
            ·rw [if_neg c22] at H
             have c22b0 : (x10_4 == 0) = false := beq_eq_false_iff_ne.mpr c22
             have c22b1 : (x10_4 != 0) = true := bne_iff_ne.mpr c22
             have H' := Aside0.mk H
             clear H
             go_wp2
             go_loopg [10, 66] k4 (fun kq v10 v66 w' => ∃ (x9_5 : List Int) (x10_5 : Int) (x66_5 : Int), v10 = .int .i64 x10_5 ∧ v66 = .int .i64 x66_5 ∧ Aside0 (lombardref01_Split.l3 kq l1 x9_5 x10_5 l1 (l1.length : Int) x66_5 = some (r1, r2)) ∧ Aside0 (kq ≤ k4) ∧ Aside0 (Kd.R (Kd.int .i64) 2 w' w.heap.size (fun _ => True) u9 x9_5) ∧ Aside0 (Below w.heap.size w w'))
             case atStart => exact ⟨(x9_4), (x10_4), (0), (by first | rfl | (simp; done) | (simp [*]; done)), (by first | rfl | (simp; done) | (simp [*]; done)), H', ⟨Nat.le_refl _⟩, ⟨by (with_reducible repeat (first | apply Kd.R_alloc | apply Kd.R_drewN | apply Kd.R_drew)); exact HO_9.out⟩, ⟨by repeat (first | (with_reducible first | exact HB.out | apply below_alloc | apply pw_below_drewN | apply below_drew1) | exact HB.out)⟩⟩
             case round =>
              clear H'
              repeat first | clear c1 | clear c2 | clear p2 | clear q2 | clear hx2 | clear c3 | clear c3b0 | clear c4 | clear c4b0 | clear c5 | clear c5b0 | clear p6 | clear c7 | clear c7b0 | clear c9 | clear c10 | clear c10b0 | clear c10b1 | clear c12 | clear c12b0 | clear c12b1 | clear c14 | clear c15 | clear c15b0 | clear c16 | clear c16b0 | clear c17 | clear c17b0 | clear c19 | clear p21 | clear q21 | clear hx21 | clear c22 | clear c22b0 | clear c22b1 | clear p22 | clear q22 | clear hx22 | clear hx219_0 | clear hx222_0 | clear p2 | clear p21 | clear p219 | clear p222 | clear p6 | clear q2 | clear q21 | clear q219 | clear q222
              obtain ⟨x9_5, x10_5, x66_5, rfl, rfl, HA, HK5, HO_9, HB⟩ := hrel
              cases gk with
              | zero => exact absurd HA.out (by simp [lombardref01_Split.l3])
              | succ k5 =>
               have H := HA.out
               clear HA
               simp only [lombardref01_Split.l3] at H
               by_cases c23 : x66_5 < (l1.length : Int)
               ·rw [if_pos c23] at H
                have c23b0 : decide (x66_5 < (l1.length : Int)) = true := decide_eq_true c23
                clear c23
                by_cases c24 : 0 ≤ x66_5
                ·rw [if_pos c24] at H
                 have c24b0 : decide (0 ≤ x66_5) = true := decide_eq_true c24
                 clear c24
                 by_cases c25 : x66_5 < (l1.length : Int)
                 ·rw [if_pos c25] at H
                  have c25b0 : decide (x66_5 < (l1.length : Int)) = true := decide_eq_true c25
                  clear c25
                  have HC26 := Aside0.mk H
                  clear H
                  have p227 : 0 ≤ (x66_5 : Int) := of_decide_eq_true (by first | (with_reducible assumption) | assumption)
                  have q227 : x66_5 < (l1.length : Int) := of_decide_eq_true (by first | (with_reducible assumption) | assumption)
                  obtain ⟨ad227, e227, hx227_0⟩ := Kd.at_int HR1.out x66_5 p227 q227
                  cases e227
                  try replace hx227_0 := (HB.out.cell (World.block_lt_of_cell? w _ hx227_0)).trans hx227_0
                  replace p227 := eq_true p227
                  replace q227 := eq_true q227
                  go_upto_region 26 with (fail)
                  go_cut [76] (fun v76 wc => ∃ (kq : Nat) (x76_25 : Bool), v76 = .bool x76_25 ∧ Aside0 (lombardref01_Split.j6 kq l1 x9_5 x10_5 x66_5 (rd l1 x66_5) l1 (l1.length : Int) x66_5 x76_25 = some (r1, r2)) ∧ Aside0 (kq ≤ k5) ∧ Aside0 (Kd.R (Kd.int .i64) 2 wc w.heap.size (fun _ => True) u9 x9_5) ∧ Aside0 (Below w.heap.size w wc))
                  case first =>
                   have H := HC26.out
                   clear HC26
                   by_cases c27 : (rd l1 x66_5) = 0
                   ·rw [if_pos c27] at H
                    have c27b0 : ((rd l1 x66_5) == 0) = true := beq_iff_eq.mpr c27
                    have c27b1 : ((rd l1 x66_5) != 0) = false := bne_eq_false_iff_eq.mpr c27
                    clear c27
                    (first | rw [c27b0] | (simp only [i64_w, i32_w]; rw [c27b0]) | skip)
                    have H' := Aside0.mk H
                    clear H
                    go_wp2
                    go_meet
                    case rel => exact ⟨_, (false), (by first | rfl | (simp; done) | (simp [*]; done)), H', ⟨by have := HK1.out; have := HJ10.out; have := HK3.out; have := HK4.out; have := HK5.out; first | omega | exact Nat.le_refl _⟩, ⟨by (with_reducible repeat (first | apply Kd.R_alloc | apply Kd.R_drewN | apply Kd.R_drew)); exact HO_9.out⟩, ⟨by repeat (first | (with_reducible first | exact HB.out | apply below_alloc | apply pw_below_drewN | apply below_drew1) | exact HB.out)⟩⟩
                   ·rw [if_neg c27] at H
                    have c27b0 : ((rd l1 x66_5) == 0) = false := beq_eq_false_iff_ne.mpr c27
                    have c27b1 : ((rd l1 x66_5) != 0) = true := bne_iff_ne.mpr c27
                    (first | rw [c27b0] | (simp only [i64_w, i32_w]; rw [c27b0]) | skip)
                    have H' := Aside0.mk H
                    clear H
                    go_wp2
                    go_meet
                    case rel => exact ⟨_, (decide (x10_5 > 0)), (by first | rfl | (simp; done) | (simp [*]; done)), H', ⟨by have := HK1.out; have := HJ10.out; have := HK3.out; have := HK4.out; have := HK5.out; first | omega | exact Nat.le_refl _⟩, ⟨by (with_reducible repeat (first | apply Kd.R_alloc | apply Kd.R_drewN | apply Kd.R_drew)); exact HO_9.out⟩, ⟨by repeat (first | (with_reducible first | exact HB.out | apply below_alloc | apply pw_below_drewN | apply below_drew1) | exact HB.out)⟩⟩
                  case rest =>
                   clear HC26
                   repeat first | clear c1 | clear c2 | clear p2 | clear q2 | clear hx2 | clear c3 | clear c3b0 | clear c4 | clear c4b0 | clear c5 | clear c5b0 | clear p6 | clear c7 | clear c7b0 | clear c9 | clear c10 | clear c10b0 | clear c10b1 | clear c12 | clear c12b0 | clear c12b1 | clear c14 | clear c15 | clear c15b0 | clear c16 | clear c16b0 | clear c17 | clear c17b0 | clear c19 | clear p21 | clear q21 | clear hx21 | clear c22 | clear c22b0 | clear c22b1 | clear p22 | clear q22 | clear hx22 | clear c23 | clear c23b0 | clear c24 | clear c24b0 | clear c25 | clear c25b0 | clear c27 | clear c27b0 | clear c27b1 | clear hx219_0 | clear hx222_0 | clear hx227_0 | clear p2 | clear p21 | clear p219 | clear p22 | clear p222 | clear p227 | clear p6 | clear q2 | clear q21 | clear q219 | clear q22 | clear q222 | clear q227
                   obtain ⟨kq, x76_25, rfl, HA, HJ25, HO_9, HB⟩ := hcut
                   cases kq with
                   | zero => exact absurd HA.out (by simp [lombardref01_Split.j6])
                   | succ kj25 =>
                    have H := HA.out
                    clear HA
                    simp only [lombardref01_Split.j6] at H
                    by_cases c28 : x76_25 = true
                    ·subst c28
                     have H1 : (if 0 ≤ x66_5 then (if x66_5 < (x9_5.length : Int) then (lombardref01_Split.l3 kj25 l1 (x9_5.set (x66_5 : Int).toNat (wrap64 ((rd x9_5 x66_5) + 1))) (wrap64 (x10_5 - 1)) l1 (l1.length : Int) (wrap64 (x66_5 + 1))) else (none)) else (none)) = some (r1, r2) := by rw [if_pos rfl] at H; exact H
                     clear H
                     have H := H1
                     clear H1
                     by_cases c29 : 0 ≤ x66_5
                     ·rw [if_pos c29] at H
                      have c29b0 : decide (0 ≤ x66_5) = true := decide_eq_true c29
                      clear c29
                      by_cases c30 : x66_5 < (x9_5.length : Int)
                      ·rw [if_pos c30] at H
                       have c30b0 : decide (x66_5 < (x9_5.length : Int)) = true := decide_eq_true c30
                       clear c30
                       obtain ⟨y229, hy229⟩ : ∃ y_ : List Int, y_ = (x9_5.set (x66_5 : Int).toNat (wrap64 ((rd x9_5 x66_5) + 1))) := ⟨_, rfl⟩
                       replace H : (lombardref01_Split.l3 kj25 l1 y229 (wrap64 (x10_5 - 1)) l1 (l1.length : Int) (wrap64 (x66_5 + 1))) = some (r1, r2) := by first | (rw [hy229]; with_reducible exact H) | (have H2_ := (Option.bind_some _ _).symm.trans H; rw [hy229]; with_reducible exact H2_) | (have H2_ := (Option.bind_some _ _).symm.trans H; with_reducible exact H2_) | with_reducible exact H | (rw [hy229]; exact H) | exact H
                       have Ny229 := Aside0.mk hy229
                       clear hy229
                       have H' := Aside0.mk H
                       clear H
                       obtain ⟨Ao32, co32, eo32⟩ := Kd.R_slice HO_9.out
                       subst eo32
                       have p228 : 0 ≤ (x66_5 : Int) := of_decide_eq_true (by first | (with_reducible assumption) | assumption)
                       have q228 : x66_5 < (x9_5.length : Int) := of_decide_eq_true (by first | (with_reducible assumption) | assumption)
                       obtain ⟨ad228, e228, hx228_0⟩ := Kd.at_int (Kd.R_reads' HO_9.out).2.2 x66_5 p228 q228
                       cases e228
                       replace p228 := eq_true p228
                       replace q228 := eq_true q228
                       have p31 : 0 ≤ (x66_5 : Int) := of_decide_eq_true (by first | (with_reducible assumption) | assumption)
                       have q31 : (x66_5 : Int) < ((x9_5.length : Int) : Int) := of_decide_eq_true (by first | (with_reducible assumption) | assumption)
                       obtain ⟨go31, co31, eo31, gb31, gl31, cl31, HG31⟩ := Kd.R_form HO_9.out (by omega)
                       (first | cases eo31 | (injection eo31 with ea_ en_ ec_; (first | subst ea_ | (injection ea_ with ea_; subst ea_)); subst ec_; clear en_))
                       have GB31 := Aside0.mk gb31
                       have GG31 := Aside0.mk HG31
                       clear gb31 gl31 HG31
                       (first | simp only [add_plain] at hx228_0 | skip)
                       obtain ⟨hx31_0, hf31_0⟩ := Kd.R_celln 0 HO_9.out (x66_5 : Int) p31 q31
                       replace p31 := eq_true p31
                       replace q31 := eq_true q31
                       have HP33 := Kd.R_putg HO_9.out (x66_5 : Int) (wrap64 ((rd x9_5 x66_5) + 1))
                       go_wp2_with (first | ((with_reducible refine gate_store (t := 2) (p := 82) rfl ?_); refine store_event (t := 2) (p := 82) (v := ?vo_w34) (w1 := (wc.setCell ⟨go31, (x66_5 : Int).toNat, none⟩ (.int .i64 (wrap64 ((rd x9_5 x66_5) + 1))))) ?hg ?ho ?hn ?hr ?_; (case ho => rfl); (case hg => rfl); (case hn => rfl); (case hr => first | (go_simp; done) | (go_simp; rfl)); intro w34 hw; have hg : wc.grownBy w34 (some go31) := (by rw [hw]; exact HP33.2); have hp_ : Kd.R (Kd.int .i64) 2 w34 w.heap.size (fun _ => True) (.slice (some ⟨go31, 0, none⟩) x9_5.length co32) y229 := (by rw [hw, Ny229.out]; exact HP33.1); clear HP33; have n0_ := Aside0.mk (hp_); have n1_ := Aside0.mk ((by rw [hw]; exact below_set (HB.out) GB31.out : Below w.heap.size w w34)); clear HO_9; clear HB; have HO_9 := n0_; have HB := n1_; clear n0_ n1_; clear hg hw hp_))
                       go_roundg kj25
                       case measure => have := HK1.out; have := HJ10.out; have := HK3.out; have := HK4.out; have := HK5.out; have := HJ25.out; omega
                       case rel => exact ⟨(y229), (wrap64 (x10_5 - 1)), (wrap64 (x66_5 + 1)), (by first | rfl | (simp; done) | (simp [*]; done)), (by first | rfl | (simp; done) | (simp [*]; done)), H', ⟨by have := HK1.out; have := HJ10.out; have := HK3.out; have := HK4.out; have := HK5.out; have := HJ25.out; omega⟩, ⟨by (with_reducible repeat (first | apply Kd.R_alloc | apply Kd.R_drewN | apply Kd.R_drew)); exact HO_9.out⟩, ⟨by repeat (first | (with_reducible first | exact HB.out | apply below_alloc | apply pw_below_drewN | apply below_drew1) | exact HB.out)⟩⟩
                      ·rw [if_neg c30] at H
                       exact absurd H (by simp)
                     ·rw [if_neg c29] at H
                      exact absurd H (by simp)
                    ·replace c28 := Bool.eq_false_iff.mpr c28
                     subst c28
                     have H1 : (if (rd l1 x66_5) = 0 then (lombardref01_Split.l3 kj25 l1 x9_5 x10_5 l1 (l1.length : Int) (wrap64 (x66_5 + 1))) else (if x10_5 < 0 then (if 0 ≤ x66_5 then (if x66_5 < (x9_5.length : Int) then (lombardref01_Split.l3 kj25 l1 (x9_5.set (x66_5 : Int).toNat (wrap64 ((rd x9_5 x66_5) - 1))) (wrap64 (x10_5 + 1)) l1 (l1.length : Int) (wrap64 (x66_5 + 1))) else (none)) else (none)) else (lombardref01_Split.l3 kj25 l1 x9_5 x10_5 l1 (l1.length : Int) (wrap64 (x66_5 + 1))))) = some (r1, r2) := by rw [if_neg (show ¬ (false = true) by decide)] at H; exact H
                     clear H
                     have H := H1
                     clear H1
                     by_cases c35 : (rd l1 x66_5) = 0
                     ·rw [if_pos c35] at H
                      have c35b0 : ((rd l1 x66_5) == 0) = true := beq_iff_eq.mpr c35
                      have c35b1 : ((rd l1 x66_5) != 0) = false := bne_eq_false_iff_eq.mpr c35
                      clear c35
                      have H' := Aside0.mk H
                      clear H
                      go_wp2
                      go_roundg kj25
                      case measure => have := HK1.out; have := HJ10.out; have := HK3.out; have := HK4.out; have := HK5.out; have := HJ25.out; omega
                      case rel => exact ⟨(x9_5), (x10_5), (wrap64 (x66_5 + 1)), (by first | rfl | (simp; done) | (simp [*]; done)), (by first | rfl | (simp; done) | (simp [*]; done)), H', ⟨by have := HK1.out; have := HJ10.out; have := HK3.out; have := HK4.out; have := HK5.out; have := HJ25.out; omega⟩, ⟨by (with_reducible repeat (first | apply Kd.R_alloc | apply Kd.R_drewN | apply Kd.R_drew)); exact HO_9.out⟩, ⟨by repeat (first | (with_reducible first | exact HB.out | apply below_alloc | apply pw_below_drewN | apply below_drew1) | exact HB.out)⟩⟩
                     ·rw [if_neg c35] at H
                      have c35b0 : ((rd l1 x66_5) == 0) = false := beq_eq_false_iff_ne.mpr c35
                      have c35b1 : ((rd l1 x66_5) != 0) = true := bne_iff_ne.mpr c35
                      by_cases c36 : x10_5 < 0
                      ·rw [if_pos c36] at H
                       have c36b0 : decide (x10_5 < 0) = true := decide_eq_true c36
                       clear c36
                       by_cases c37 : 0 ≤ x66_5
                       ·rw [if_pos c37] at H
                        have c37b0 : decide (0 ≤ x66_5) = true := decide_eq_true c37
                        clear c37
                        by_cases c38 : x66_5 < (x9_5.length : Int)
                        ·rw [if_pos c38] at H
                         have c38b0 : decide (x66_5 < (x9_5.length : Int)) = true := decide_eq_true c38
                         clear c38
                         obtain ⟨y231, hy231⟩ : ∃ y_ : List Int, y_ = (x9_5.set (x66_5 : Int).toNat (wrap64 ((rd x9_5 x66_5) - 1))) := ⟨_, rfl⟩
                         replace H : (lombardref01_Split.l3 kj25 l1 y231 (wrap64 (x10_5 + 1)) l1 (l1.length : Int) (wrap64 (x66_5 + 1))) = some (r1, r2) := by first | (rw [hy231]; with_reducible exact H) | (have H2_ := (Option.bind_some _ _).symm.trans H; rw [hy231]; with_reducible exact H2_) | (have H2_ := (Option.bind_some _ _).symm.trans H; with_reducible exact H2_) | with_reducible exact H | (rw [hy231]; exact H) | exact H
                         have Ny231 := Aside0.mk hy231
                         clear hy231
                         have H' := Aside0.mk H
                         clear H
                         obtain ⟨Ao40, co40, eo40⟩ := Kd.R_slice HO_9.out
                         subst eo40
                         have p230 : 0 ≤ (x66_5 : Int) := of_decide_eq_true (by first | (with_reducible assumption) | assumption)
                         have q230 : x66_5 < (x9_5.length : Int) := of_decide_eq_true (by first | (with_reducible assumption) | assumption)
                         obtain ⟨ad230, e230, hx230_0⟩ := Kd.at_int (Kd.R_reads' HO_9.out).2.2 x66_5 p230 q230
                         cases e230
                         replace p230 := eq_true p230
                         replace q230 := eq_true q230
                         have p39 : 0 ≤ (x66_5 : Int) := of_decide_eq_true (by first | (with_reducible assumption) | assumption)
                         have q39 : (x66_5 : Int) < ((x9_5.length : Int) : Int) := of_decide_eq_true (by first | (with_reducible assumption) | assumption)
                         obtain ⟨go39, co39, eo39, gb39, gl39, cl39, HG39⟩ := Kd.R_form HO_9.out (by omega)
                         (first | cases eo39 | (injection eo39 with ea_ en_ ec_; (first | subst ea_ | (injection ea_ with ea_; subst ea_)); subst ec_; clear en_))
                         have GB39 := Aside0.mk gb39
                         have GG39 := Aside0.mk HG39
                         clear gb39 gl39 HG39
                         (first | simp only [add_plain] at hx230_0 | skip)
                         obtain ⟨hx39_0, hf39_0⟩ := Kd.R_celln 0 HO_9.out (x66_5 : Int) p39 q39
                         replace p39 := eq_true p39
                         replace q39 := eq_true q39
                         have HP41 := Kd.R_putg HO_9.out (x66_5 : Int) (wrap64 ((rd x9_5 x66_5) - 1))
                         go_wp2_with (first | ((with_reducible refine gate_store (t := 2) (p := 96) rfl ?_); refine store_event (t := 2) (p := 96) (v := ?vo_w42) (w1 := (wc.setCell ⟨go39, (x66_5 : Int).toNat, none⟩ (.int .i64 (wrap64 ((rd x9_5 x66_5) - 1))))) ?hg ?ho ?hn ?hr ?_; (case ho => rfl); (case hg => rfl); (case hn => rfl); (case hr => first | (go_simp; done) | (go_simp; rfl)); intro w42 hw; have hg : wc.grownBy w42 (some go39) := (by rw [hw]; exact HP41.2); have hp_ : Kd.R (Kd.int .i64) 2 w42 w.heap.size (fun _ => True) (.slice (some ⟨go39, 0, none⟩) x9_5.length co40) y231 := (by rw [hw, Ny231.out]; exact HP41.1); clear HP41; have n0_ := Aside0.mk (hp_); have n1_ := Aside0.mk ((by rw [hw]; exact below_set (HB.out) GB39.out : Below w.heap.size w w42)); clear HO_9; clear HB; have HO_9 := n0_; have HB := n1_; clear n0_ n1_; clear hg hw hp_))
                         go_roundg kj25
                         case measure => have := HK1.out; have := HJ10.out; have := HK3.out; have := HK4.out; have := HK5.out; have := HJ25.out; omega
                         case rel => exact ⟨(y231), (wrap64 (x10_5 + 1)), (wrap64 (x66_5 + 1)), (by first | rfl | (simp; done) | (simp [*]; done)), (by first | rfl | (simp; done) | (simp [*]; done)), H', ⟨by have := HK1.out; have := HJ10.out; have := HK3.out; have := HK4.out; have := HK5.out; have := HJ25.out; omega⟩, ⟨by (with_reducible repeat (first | apply Kd.R_alloc | apply Kd.R_drewN | apply Kd.R_drew)); exact HO_9.out⟩, ⟨by repeat (first | (with_reducible first | exact HB.out | apply below_alloc | apply pw_below_drewN | apply below_drew1) | exact HB.out)⟩⟩
                        ·rw [if_neg c38] at H
                         exact absurd H (by simp)
                       ·rw [if_neg c37] at H
                        exact absurd H (by simp)
                      ·rw [if_neg c36] at H
                       have c36b0 : decide (x10_5 < 0) = false := decide_eq_false c36
                       clear c36
                       have H' := Aside0.mk H
                       clear H
                       go_wp2
                       go_roundg kj25
                       case measure => have := HK1.out; have := HJ10.out; have := HK3.out; have := HK4.out; have := HK5.out; have := HJ25.out; omega
                       case rel => exact ⟨(x9_5), (x10_5), (wrap64 (x66_5 + 1)), (by first | rfl | (simp; done) | (simp [*]; done)), (by first | rfl | (simp; done) | (simp [*]; done)), H', ⟨by have := HK1.out; have := HJ10.out; have := HK3.out; have := HK4.out; have := HK5.out; have := HJ25.out; omega⟩, ⟨by (with_reducible repeat (first | apply Kd.R_alloc | apply Kd.R_drewN | apply Kd.R_drew)); exact HO_9.out⟩, ⟨by repeat (first | (with_reducible first | exact HB.out | apply below_alloc | apply pw_below_drewN | apply below_drew1) | exact HB.out)⟩⟩
                 ·rw [if_neg c25] at H
                  exact absurd H (by simp)
                ·rw [if_neg c24] at H
                 exact absurd H (by simp)
               ·rw [if_neg c23] at H
                have c23b0 : decide (x66_5 < (l1.length : Int)) = false := decide_eq_false c23
                clear c23
                have H' := Aside0.mk H
                clear H
                go_wp2
                go_roundg k5
                case measure => have := HK1.out; have := HJ10.out; have := HK3.out; have := HK4.out; have := HK5.out; omega
                case rel => exact ⟨(x9_5), (x10_5), (by first | rfl | (simp; done) | (simp [*]; done)), H', ⟨by have := HK1.out; have := HJ10.out; have := HK3.out; have := HK4.out; have := HK5.out; omega⟩, ⟨by (with_reducible repeat (first | apply Kd.R_alloc | apply Kd.R_drewN | apply Kd.R_drew)); exact HO_9.out⟩, ⟨by repeat (first | (with_reducible first | exact HB.out | apply below_alloc | apply pw_below_drewN | apply below_drew1) | exact HB.out)⟩⟩

end Go.Proofs.Ytchpeobenlnemaa.S
