/- Printed by a program of this session out of the translation: what each function called here computes, and that its call comes to just that. Conditions: none beyond those that each theorem names. -/
import Derived.Test.YtohbdjfabghagaaSx0
import Derived.Test.YtohbdjfabghagaaSxMathBitsDiv64
import Derived.Test.YtohbdjfabghagaaSxMathBitsMul64
import Derived.Test.YtohbdjfabghagaaSxMoneyMay
import Derived.Test.YtohbdjfabghagaaSxMoneySizeInt64
namespace Go.Proofs.Ytohbdjfabghagaa.S
open Go.RowKit Go.Proofs.YtohbdjfabghagaaW.PrintWords Go.Proofs.YtohbdjfabghagaaW.PrintLast Go.Proofs.YtohbdjfabghagaaW.PrintMore
attribute [local go_sem] max2_int min2_int max_two min_two max_three min_three max_four min_four   -- for this text's walks alone
attribute [local go_sem] Go.Proofs.Ytohbdjfabghagaa.XWalk.cell2
set_option linter.unusedVariables false
set_option linter.unusedSimpArgs false

/-! ### money_Split: function 24 -/
mutual
def money_Split.j0 : Nat → Int → List Int → Bool → Option (List Int × Int)
  | 0, _, _, _ => none
  | k + 1, x0, x1, x31 => if x31 = true then (some (([] : List Int), 2)) else (money_Split.l0 k x0 x1 0 x1 (x1.length : Int) 0)
def money_Split.l0 : Nat → Int → List Int → Int → List Int → Int → Int → Option (List Int × Int)
  | 0, _, _, _, _, _, _ => none
  | k + 1, x0, x1, x6, x32, x33, x34 => if x34 < x33 then (if 0 ≤ x34 then (if x34 < (x32.length : Int) then (if (rd x32 x34) < 0 then (some (([] : List Int), 2)) else ((money_May.f (rd x32 x34)).bind fun t162 => (if t162 = true then (money_Split.l0 k x0 x1 (wrap64 (x6 + (rd x32 x34))) x32 x33 (wrap64 (x34 + 1))) else (some (([] : List Int), 2))))) else (none)) else (none)) else (if x6 = 0 then (some (([] : List Int), 2)) else (if x0 < 0 then (money_Split.j2 k x0 x1 x6 (-1)) else (money_Split.j2 k x0 x1 x6 1)))
def money_Split.j2 : Nat → Int → List Int → Int → Int → Option (List Int × Int)
  | 0, _, _, _, _ => none
  | k + 1, x0, x1, x6, x9 => money_Split.l1 k x0 x1 x6 x9 ([] : List Int) x0 x1 (x1.length : Int) 0
def money_Split.l1 : Nat → Int → List Int → Int → Int → List Int → Int → List Int → Int → Int → Option (List Int × Int)
  | 0, _, _, _, _, _, _, _, _, _ => none
  | k + 1, x0, x1, x6, x9, x10, x11, x54, x55, x56 => if x56 < x55 then (if 0 ≤ x56 then (if x56 < (x54.length : Int) then ((money_size_int64.f x0).bind fun t164 => ((math_bits_Mul64.f t164 (IntKind.u64.wrap (rd x54 x56))).bind fun bt165 => ((math_bits_Div64.f k bt165.1 bt165.2 (IntKind.u64.wrap (x6))).bind fun bt167 => (if x10.length < 17592186044416 then (money_Split.l1 k x0 x1 x6 x9 (x10 ++ [wrap64 (x9 * (wrap64 (bt167.1)))]) (wrap64 (x11 - (wrap64 (x9 * (wrap64 (bt167.1)))))) x54 x55 (wrap64 (x56 + 1))) else (none))))) else (none)) else (none)) else (money_Split.l2 k x1 x9 x10 x11 0)
def money_Split.l2 : Nat → List Int → Int → List Int → Int → Int → Option (List Int × Int)
  | 0, _, _, _, _, _ => none
  | k + 1, x1, x9, x10, x11, x18 => if x11 = 0 then (some (x10, 0)) else (if 0 ≤ x18 then (if x18 < (x1.length : Int) then (if (rd x1 x18) > 0 then (if x18 < (x10.length : Int) then (if (x10.length : Int) = 0 then (none) else (money_Split.l2 k x1 x9 (x10.set (x18 : Int).toNat (wrap64 ((rd x10 x18) + x9))) (wrap64 (x11 - x9)) (Int.tmod (wrap64 (x18 + 1)) (x10.length : Int)))) else (none)) else (if (x10.length : Int) = 0 then (none) else (money_Split.l2 k x1 x9 x10 x11 (Int.tmod (wrap64 (x18 + 1)) (x10.length : Int))))) else (none)) else (none))
end
def money_Split.f (k : Nat) (a0 : Int) (l1 : List Int) : Option (List Int × Int) := if (l1.length : Int) = 0 then (money_Split.j0 k a0 l1 true) else (if (l1.length : Int) > 600 then (money_Split.j0 k a0 l1 true) else ((money_May.f a0).bind fun t160 => (money_Split.j0 k a0 l1 (!t160))))
theorem money_Split.mono_l : ∀ k, (∀ y0 y1 y2, LeO (money_Split.j0 k y0 y1 y2) (money_Split.j0 (k + 1) y0 y1 y2)) ∧ (∀ y0 y1 y2 y3 y4 y5, LeO (money_Split.l0 k y0 y1 y2 y3 y4 y5) (money_Split.l0 (k + 1) y0 y1 y2 y3 y4 y5)) ∧ (∀ y0 y1 y2 y3, LeO (money_Split.j2 k y0 y1 y2 y3) (money_Split.j2 (k + 1) y0 y1 y2 y3)) ∧ (∀ y0 y1 y2 y3 y4 y5 y6 y7 y8, LeO (money_Split.l1 k y0 y1 y2 y3 y4 y5 y6 y7 y8) (money_Split.l1 (k + 1) y0 y1 y2 y3 y4 y5 y6 y7 y8)) ∧ (∀ y0 y1 y2 y3 y4, LeO (money_Split.l2 k y0 y1 y2 y3 y4) (money_Split.l2 (k + 1) y0 y1 y2 y3 y4))
  | 0 => ⟨fun _ _ _ r h => by simp [money_Split.j0] at h, fun _ _ _ _ _ _ r h => by simp [money_Split.l0] at h, fun _ _ _ _ r h => by simp [money_Split.j2] at h, fun _ _ _ _ _ _ _ _ _ r h => by simp [money_Split.l1] at h, fun _ _ _ _ _ r h => by simp [money_Split.l2] at h⟩
  | k + 1 => by
    obtain ⟨ih0, ih1, ih2, ih3, ih4⟩ := money_Split.mono_l k
    refine ⟨?_, ?_, ?_, ?_, ?_⟩
    · intro y0 y1 y2
      unfold money_Split.j0
      repeat' first
      | (with_reducible exact ih0 _ _ _)
      | (with_reducible exact ih1 _ _ _ _ _ _)
      | (with_reducible exact ih2 _ _ _ _)
      | (with_reducible exact ih3 _ _ _ _ _ _ _ _ _)
      | (with_reducible exact ih4 _ _ _ _ _)
      | (with_reducible exact math_bits_Div64.mono _ _ _ _)
      | (with_reducible exact LeO.refl _)
      | (with_reducible exact LeO.none _)
      | (with_reducible refine LeO.ite ?_ ?_)
      | (with_reducible refine LeO.bind ?_ (fun _ => ?_))
      | exact ih0 _ _ _
      | exact ih1 _ _ _ _ _ _
      | exact ih2 _ _ _ _
      | exact ih3 _ _ _ _ _ _ _ _ _
      | exact ih4 _ _ _ _ _
      | exact math_bits_Div64.mono _ _ _ _
      | exact LeO.none _
      | refine LeO.ite ?_ ?_
      | refine LeO.bind ?_ (fun _ => ?_)
    · intro y0 y1 y2 y3 y4 y5
      unfold money_Split.l0
      repeat' first
      | (with_reducible exact ih0 _ _ _)
      | (with_reducible exact ih1 _ _ _ _ _ _)
      | (with_reducible exact ih2 _ _ _ _)
      | (with_reducible exact ih3 _ _ _ _ _ _ _ _ _)
      | (with_reducible exact ih4 _ _ _ _ _)
      | (with_reducible exact math_bits_Div64.mono _ _ _ _)
      | (with_reducible exact LeO.refl _)
      | (with_reducible exact LeO.none _)
      | (with_reducible refine LeO.ite ?_ ?_)
      | (with_reducible refine LeO.bind ?_ (fun _ => ?_))
      | exact ih0 _ _ _
      | exact ih1 _ _ _ _ _ _
      | exact ih2 _ _ _ _
      | exact ih3 _ _ _ _ _ _ _ _ _
      | exact ih4 _ _ _ _ _
      | exact math_bits_Div64.mono _ _ _ _
      | exact LeO.none _
      | refine LeO.ite ?_ ?_
      | refine LeO.bind ?_ (fun _ => ?_)
    · intro y0 y1 y2 y3
      unfold money_Split.j2
      repeat' first
      | (with_reducible exact ih0 _ _ _)
      | (with_reducible exact ih1 _ _ _ _ _ _)
      | (with_reducible exact ih2 _ _ _ _)
      | (with_reducible exact ih3 _ _ _ _ _ _ _ _ _)
      | (with_reducible exact ih4 _ _ _ _ _)
      | (with_reducible exact math_bits_Div64.mono _ _ _ _)
      | (with_reducible exact LeO.refl _)
      | (with_reducible exact LeO.none _)
      | (with_reducible refine LeO.ite ?_ ?_)
      | (with_reducible refine LeO.bind ?_ (fun _ => ?_))
      | exact ih0 _ _ _
      | exact ih1 _ _ _ _ _ _
      | exact ih2 _ _ _ _
      | exact ih3 _ _ _ _ _ _ _ _ _
      | exact ih4 _ _ _ _ _
      | exact math_bits_Div64.mono _ _ _ _
      | exact LeO.none _
      | refine LeO.ite ?_ ?_
      | refine LeO.bind ?_ (fun _ => ?_)
    · intro y0 y1 y2 y3 y4 y5 y6 y7 y8
      unfold money_Split.l1
      repeat' first
      | (with_reducible exact ih0 _ _ _)
      | (with_reducible exact ih1 _ _ _ _ _ _)
      | (with_reducible exact ih2 _ _ _ _)
      | (with_reducible exact ih3 _ _ _ _ _ _ _ _ _)
      | (with_reducible exact ih4 _ _ _ _ _)
      | (with_reducible exact math_bits_Div64.mono _ _ _ _)
      | (with_reducible exact LeO.refl _)
      | (with_reducible exact LeO.none _)
      | (with_reducible refine LeO.ite ?_ ?_)
      | (with_reducible refine LeO.bind ?_ (fun _ => ?_))
      | exact ih0 _ _ _
      | exact ih1 _ _ _ _ _ _
      | exact ih2 _ _ _ _
      | exact ih3 _ _ _ _ _ _ _ _ _
      | exact ih4 _ _ _ _ _
      | exact math_bits_Div64.mono _ _ _ _
      | exact LeO.none _
      | refine LeO.ite ?_ ?_
      | refine LeO.bind ?_ (fun _ => ?_)
    · intro y0 y1 y2 y3 y4
      unfold money_Split.l2
      repeat' first
      | (with_reducible exact ih0 _ _ _)
      | (with_reducible exact ih1 _ _ _ _ _ _)
      | (with_reducible exact ih2 _ _ _ _)
      | (with_reducible exact ih3 _ _ _ _ _ _ _ _ _)
      | (with_reducible exact ih4 _ _ _ _ _)
      | (with_reducible exact math_bits_Div64.mono _ _ _ _)
      | (with_reducible exact LeO.refl _)
      | (with_reducible exact LeO.none _)
      | (with_reducible refine LeO.ite ?_ ?_)
      | (with_reducible refine LeO.bind ?_ (fun _ => ?_))
      | exact ih0 _ _ _
      | exact ih1 _ _ _ _ _ _
      | exact ih2 _ _ _ _
      | exact ih3 _ _ _ _ _ _ _ _ _
      | exact ih4 _ _ _ _ _
      | exact math_bits_Div64.mono _ _ _ _
      | exact LeO.none _
      | refine LeO.ite ?_ ?_
      | refine LeO.bind ?_ (fun _ => ?_)
theorem money_Split.mono : ∀ a0 a1 k, LeO (money_Split.f k a0 a1) (money_Split.f (k + 1) a0 a1) := by
  intro a0 a1 k
  obtain ⟨ih0, ih1, ih2, ih3, ih4⟩ := money_Split.mono_l k
  unfold money_Split.f
  repeat' first
      | (with_reducible exact ih0 _ _ _)
      | (with_reducible exact ih1 _ _ _ _ _ _)
      | (with_reducible exact ih2 _ _ _ _)
      | (with_reducible exact ih3 _ _ _ _ _ _ _ _ _)
      | (with_reducible exact ih4 _ _ _ _ _)
      | (with_reducible exact math_bits_Div64.mono _ _ _ _)
      | (with_reducible exact LeO.refl _)
      | (with_reducible exact LeO.none _)
      | (with_reducible refine LeO.ite ?_ ?_)
      | (with_reducible refine LeO.bind ?_ (fun _ => ?_))
      | exact ih0 _ _ _
      | exact ih1 _ _ _ _ _ _
      | exact ih2 _ _ _ _
      | exact ih3 _ _ _ _ _ _ _ _ _
      | exact ih4 _ _ _ _ _
      | exact math_bits_Div64.mono _ _ _ _
      | exact LeO.none _
      | refine LeO.ite ?_ ?_
      | refine LeO.bind ?_ (fun _ => ?_)
set_option maxHeartbeats 8000000 in
set_option maxRecDepth 100000 in
theorem money_Split.calls (k : Nat) (a0 : Int) (A1 : Option Addr) (c1 : Nat) (l1 : List Int) (r1 : List Int) (r2 : Int) (w : World) (hr1 : Kd.C (Kd.int .i64) w A1 l1.length l1) (hc1 : l1.length ≤ c1) (h : money_Split.f k a0 l1 = some (r1, r2)) :
    Calls Try.prog 24 #[.int .i64 a0, .slice A1 l1.length c1] w fun e w' => ∃ v0_ : Value, e = .returned (.tuple #[v0_, .int .i64 r2]) ∧ Kd.R (Kd.int .i64) 2 w' w.heap.size (fun _ => True) v0_ r1 ∧ Below w.heap.size w w' := by
  have HR1 := Aside0.mk hr1
  have HC1 := Aside0.mk hc1
  clear hr1 hc1
  have HB := Aside0.mk (Below.refl w.heap.size w)
  have H : (if (l1.length : Int) = 0 then (money_Split.j0 k a0 l1 true) else (if (l1.length : Int) > 600 then (money_Split.j0 k a0 l1 true) else ((money_May.f a0).bind fun t160 => (money_Split.j0 k a0 l1 (!t160))))) = some (r1, r2) := h
  clear h
  have HC3 := Aside0.mk H
  clear H
  go_enter Try.func24, Try.ntmps24
  go_upto_region 1 with (fail)
  go_cut [31] (fun v31 wc => ∃ (kq : Nat) (x31_2 : Bool), v31 = .bool x31_2 ∧ Aside0 (money_Split.j0 kq a0 l1 x31_2 = some (r1, r2)) ∧ Aside0 (kq ≤ k) ∧ Aside0 (Below w.heap.size w wc))
  case first =>
    have H := HC3.out
    clear HC3
    by_cases c4 : (l1.length : Int) = 0
    · rw [if_pos c4] at H
      have c4b0 : ((l1.length : Int) == 0) = true := beq_iff_eq.mpr c4
      have c4b1 : ((l1.length : Int) != 0) = false := bne_eq_false_iff_eq.mpr c4
      clear c4
      (first | rw [c4b0] | (simp only [i64_w, i32_w]; rw [c4b0]) | skip)
      have H' := Aside0.mk H
      clear H
      go_wp2
      go_meet
      case rel => exact ⟨_, (true), (by first | rfl | (simp; done) | (simp [*]; done)), H', ⟨by first | omega | exact Nat.le_refl _⟩, ⟨by repeat (first | (with_reducible first | exact HB.out | apply below_alloc | apply pw_below_drewN | apply below_drew1) | exact HB.out)⟩⟩
    · rw [if_neg c4] at H
      have c4b0 : ((l1.length : Int) == 0) = false := beq_eq_false_iff_ne.mpr c4
      have c4b1 : ((l1.length : Int) != 0) = true := bne_iff_ne.mpr c4
      have c4b2 : ¬ (l1 = []) := fun h_ => c4 (by rw [h_]; rfl)
      (first | rw [c4b0] | (simp only [i64_w, i32_w]; rw [c4b0]) | skip)
      by_cases c5 : (l1.length : Int) > 600
      · rw [if_pos c5] at H
        have c5b0 : decide (600 < (l1.length : Int)) = true := decide_eq_true c5
        have c5b1 : decide (600 < l1.length) = true := decide_eq_true (by omega)
        clear c5
        have H' := Aside0.mk H
        clear H
        go_wp2
        go_meet
        case rel => exact ⟨_, (true), (by first | rfl | (simp; done) | (simp [*]; done)), H', ⟨by first | omega | exact Nat.le_refl _⟩, ⟨by repeat (first | (with_reducible first | exact HB.out | apply below_alloc | apply pw_below_drewN | apply below_drew1) | exact HB.out)⟩⟩
      · rw [if_neg c5] at H
        have c5b0 : decide (600 < (l1.length : Int)) = false := decide_eq_false c5
        have c5b1 : decide (600 < l1.length) = false := decide_eq_false (by omega)
        clear c5
        replace H := Option.bind_eq_some_iff.mp H
        obtain ⟨t160, A60, H⟩ := H
        replace H : (money_Split.j0 k a0 l1 (!t160)) = some (r1, r2) := H
        have A6 := Aside0.mk A60
        clear A60
        have H' := Aside0.mk H
        clear H
        go_wp2_with (first | (go_at_call 37; (with_reducible refine (money_May.calls a0 t160 _ A6.out).mono ?_); rintro e w' ⟨rfl, ⟨nd, rfl⟩⟩))
        go_meet
        case rel => exact ⟨_, (!t160), (by first | rfl | (simp; done) | (simp [*]; done)), H', ⟨by first | omega | exact Nat.le_refl _⟩, ⟨by repeat (first | (with_reducible first | exact HB.out | apply below_alloc | apply pw_below_drewN | apply below_drew1) | exact HB.out)⟩⟩
  case rest =>
    clear HC3
    try clear c1
    try clear c2
    try clear p2
    try clear c4
    try clear c4b0
    try clear c4b1
    try clear c4b2
    try clear c5
    try clear c5b0
    try clear c5b1
    obtain ⟨kq, x31_2, rfl, HA, HJ2, HB⟩ := hcut
    cases kq with
    | zero => exact absurd HA.out (by simp [money_Split.j0])
    | succ kj2 =>
      have H := HA.out
      clear HA
      simp only [money_Split.j0] at H
      by_cases c7 : x31_2 = true
      · subst c7
        have H1 : (some (([] : List Int), 2)) = some (r1, r2) := by rw [if_pos rfl] at H; exact H
        clear H
        have H := H1
        clear H1
        simp only [Option.some.injEq, Prod.mk.injEq] at H
        obtain ⟨rfl, rfl⟩ := H
        go_wp2
        go_ret2
        exact ⟨_, by first | rfl | (simp [errW_none, errW_some] <;> rfl) | (simp [*, errW_none, errW_some] <;> rfl), by first | exact Kd.R_nil _ _ _ _ _ | exact Kd.N_nil _ _ _ _ _ | exact Kd.V_nil _ _ _ _ _ | exact Kd.Q_nil _ _ _ _ _ | exact Kd.S_nil _ _ _ _ _, by repeat (first | (with_reducible first | exact HB.out | apply below_alloc | apply pw_below_drewN | apply below_drew1) | exact HB.out)⟩
      · replace c7 := Bool.eq_false_iff.mpr c7
        subst c7
        have H1 : (money_Split.l0 kj2 a0 l1 0 l1 (l1.length : Int) 0) = some (r1, r2) := by rw [if_neg (show ¬ (false = true) by decide)] at H; exact H
        clear H
        have H := H1
        clear H1
        have H' := Aside0.mk H
        clear H
        go_wp2
        go_loopg [6, 34] kj2 (fun kq v6 v34 w' => ∃ (x6_2 : Int) (x34_2 : Int), v6 = .int .i64 x6_2 ∧ v34 = .int .i64 x34_2 ∧ Aside0 (money_Split.l0 kq a0 l1 x6_2 l1 (l1.length : Int) x34_2 = some (r1, r2)) ∧ Aside0 (kq ≤ kj2) ∧ Aside0 (Below w.heap.size w w'))
        case atStart => exact ⟨(0), (0), (by first | rfl | (simp; done) | (simp [*]; done)), (by first | rfl | (simp; done) | (simp [*]; done)), H', ⟨Nat.le_refl _⟩, ⟨by repeat (first | (with_reducible first | exact HB.out | apply below_alloc | apply pw_below_drewN | apply below_drew1) | exact HB.out)⟩⟩
        case round =>
          clear H'
          try clear c1
          try clear c2
          try clear p2
          try clear c4
          try clear c4b0
          try clear c4b1
          try clear c4b2
          try clear c5
          try clear c5b0
          try clear c5b1
          try clear c7
          try clear p2
          obtain ⟨x6_2, x34_2, rfl, rfl, HA, HK2, HB⟩ := hrel
          cases gk with
          | zero => exact absurd HA.out (by simp [money_Split.l0])
          | succ k2 =>
            have H := HA.out
            clear HA
            simp only [money_Split.l0] at H
            by_cases c8 : x34_2 < (l1.length : Int)
            · rw [if_pos c8] at H
              have c8b0 : decide (x34_2 < (l1.length : Int)) = true := decide_eq_true c8
              clear c8
              by_cases c9 : 0 ≤ x34_2
              · rw [if_pos c9] at H
                have c9b0 : decide (0 ≤ x34_2) = true := decide_eq_true c9
                clear c9
                by_cases c10 : x34_2 < (l1.length : Int)
                · rw [if_pos c10] at H
                  have c10b0 : decide (x34_2 < (l1.length : Int)) = true := decide_eq_true c10
                  clear c10
                  have HC11 := Aside0.mk H
                  clear H
                  have p161 : 0 ≤ (x34_2 : Int) := of_decide_eq_true (by first | (with_reducible assumption) | assumption)
                  have q161 : x34_2 < (l1.length : Int) := of_decide_eq_true (by first | (with_reducible assumption) | assumption)
                  obtain ⟨ad161, e161, hx161_0⟩ := Kd.at_int HR1.out x34_2 p161 q161
                  cases e161
                  try replace hx161_0 := (HB.out.cell (World.block_lt_of_cell? w _ hx161_0)).trans hx161_0
                  replace p161 := eq_true p161
                  replace q161 := eq_true q161
                  go_upto_region 7 with (fail)
                  have H := HC11.out
                  clear HC11
                  by_cases c12 : (rd l1 x34_2) < 0
                  · rw [if_pos c12] at H
                    have c12b0 : decide ((rd l1 x34_2) < 0) = true := decide_eq_true c12
                    clear c12
                    simp only [Option.some.injEq, Prod.mk.injEq] at H
                    obtain ⟨rfl, rfl⟩ := H
                    go_wp2
                    go_ret2
                    exact ⟨_, by first | rfl | (simp [errW_none, errW_some] <;> rfl) | (simp [*, errW_none, errW_some] <;> rfl), by first | exact Kd.R_nil _ _ _ _ _ | exact Kd.N_nil _ _ _ _ _ | exact Kd.V_nil _ _ _ _ _ | exact Kd.Q_nil _ _ _ _ _ | exact Kd.S_nil _ _ _ _ _, by repeat (first | (with_reducible first | exact HB.out | apply below_alloc | apply pw_below_drewN | apply below_drew1) | exact HB.out)⟩
                  · rw [if_neg c12] at H
                    have c12b0 : decide ((rd l1 x34_2) < 0) = false := decide_eq_false c12
                    clear c12
                    replace H := Option.bind_eq_some_iff.mp H
                    obtain ⟨t162, A130, H⟩ := H
                    replace H : (if t162 = true then (money_Split.l0 k2 a0 l1 (wrap64 (x6_2 + (rd l1 x34_2))) l1 (l1.length : Int) (wrap64 (x34_2 + 1))) else (some (([] : List Int), 2))) = some (r1, r2) := H
                    have A13 := Aside0.mk A130
                    clear A130
                    by_cases c14 : t162 = true
                    · subst c14
                      have H1 : (money_Split.l0 k2 a0 l1 (wrap64 (x6_2 + (rd l1 x34_2))) l1 (l1.length : Int) (wrap64 (x34_2 + 1))) = some (r1, r2) := by rw [if_pos rfl] at H; exact H
                      clear H
                      have H := H1
                      clear H1
                      have H' := Aside0.mk H
                      clear H
                      go_wp2_with (first | (go_at_call 37; (with_reducible refine (money_May.calls (rd l1 x34_2) true _ A13.out).mono ?_); rintro e w' ⟨rfl, ⟨nd, rfl⟩⟩))
                      go_roundg k2
                      case measure => have := HJ2.out; have := HK2.out; omega
                      case rel => exact ⟨(wrap64 (x6_2 + (rd l1 x34_2))), (wrap64 (x34_2 + 1)), (by first | rfl | (simp; done) | (simp [*]; done)), (by first | rfl | (simp; done) | (simp [*]; done)), H', ⟨by have := HJ2.out; have := HK2.out; omega⟩, ⟨by repeat (first | (with_reducible first | exact HB.out | apply below_alloc | apply pw_below_drewN | apply below_drew1) | exact HB.out)⟩⟩
                    · replace c14 := Bool.eq_false_iff.mpr c14
                      subst c14
                      have H1 : (some (([] : List Int), 2)) = some (r1, r2) := by rw [if_neg (show ¬ (false = true) by decide)] at H; exact H
                      clear H
                      have H := H1
                      clear H1
                      simp only [Option.some.injEq, Prod.mk.injEq] at H
                      obtain ⟨rfl, rfl⟩ := H
                      go_wp2_with (first | (go_at_call 37; (with_reducible refine (money_May.calls (rd l1 x34_2) false _ A13.out).mono ?_); rintro e w' ⟨rfl, ⟨nd, rfl⟩⟩))
                      go_ret2
                      exact ⟨_, by first | rfl | (simp [errW_none, errW_some] <;> rfl) | (simp [*, errW_none, errW_some] <;> rfl), by first | exact Kd.R_nil _ _ _ _ _ | exact Kd.N_nil _ _ _ _ _ | exact Kd.V_nil _ _ _ _ _ | exact Kd.Q_nil _ _ _ _ _ | exact Kd.S_nil _ _ _ _ _, by repeat (first | (with_reducible first | exact HB.out | apply below_alloc | apply pw_below_drewN | apply below_drew1) | exact HB.out)⟩
                · rw [if_neg c10] at H
                  exact absurd H (by simp)
              · rw [if_neg c9] at H
                exact absurd H (by simp)
            · rw [if_neg c8] at H
              have c8b0 : decide (x34_2 < (l1.length : Int)) = false := decide_eq_false c8
              clear c8
              by_cases c15 : x6_2 = 0
              · rw [if_pos c15] at H
                have c15b0 : (x6_2 == 0) = true := beq_iff_eq.mpr c15
                have c15b1 : (x6_2 != 0) = false := bne_eq_false_iff_eq.mpr c15
                clear c15
                simp only [Option.some.injEq, Prod.mk.injEq] at H
                obtain ⟨rfl, rfl⟩ := H
                go_wp2
                go_ret2
                exact ⟨_, by first | rfl | (simp [errW_none, errW_some] <;> rfl) | (simp [*, errW_none, errW_some] <;> rfl), by first | exact Kd.R_nil _ _ _ _ _ | exact Kd.N_nil _ _ _ _ _ | exact Kd.V_nil _ _ _ _ _ | exact Kd.Q_nil _ _ _ _ _ | exact Kd.S_nil _ _ _ _ _, by repeat (first | (with_reducible first | exact HB.out | apply below_alloc | apply pw_below_drewN | apply below_drew1) | exact HB.out)⟩
              · rw [if_neg c15] at H
                have c15b0 : (x6_2 == 0) = false := beq_eq_false_iff_ne.mpr c15
                have c15b1 : (x6_2 != 0) = true := bne_iff_ne.mpr c15
                have HC16 := Aside0.mk H
                clear H
                go_upto_if 52 with (fail)
                go_cut [9] (fun v9 wc => ∃ (kq : Nat) (x9_15 : Int), v9 = .int .i64 x9_15 ∧ Aside0 (money_Split.j2 kq a0 l1 x6_2 x9_15 = some (r1, r2)) ∧ Aside0 (kq ≤ k2) ∧ Aside0 (Below w.heap.size w wc))
                case first =>
                  have H := HC16.out
                  clear HC16
                  by_cases c17 : a0 < 0
                  · rw [if_pos c17] at H
                    have c17b0 : decide (a0 < 0) = true := decide_eq_true c17
                    clear c17
                    (first | rw [c17b0] | (simp only [i64_w, i32_w]; rw [c17b0]) | skip)
                    have H' := Aside0.mk H
                    clear H
                    go_wp2
                    go_meet
                    case rel => exact ⟨_, ((-1)), (by first | rfl | (simp; done) | (simp [*]; done)), H', ⟨by have := HJ2.out; have := HK2.out; first | omega | exact Nat.le_refl _⟩, ⟨by repeat (first | (with_reducible first | exact HB.out | apply below_alloc | apply pw_below_drewN | apply below_drew1) | exact HB.out)⟩⟩
                  · rw [if_neg c17] at H
                    have c17b0 : decide (a0 < 0) = false := decide_eq_false c17
                    clear c17
                    (first | rw [c17b0] | (simp only [i64_w, i32_w]; rw [c17b0]) | skip)
                    have H' := Aside0.mk H
                    clear H
                    go_wp2
                    go_meet
                    case rel => exact ⟨_, (1), (by first | rfl | (simp; done) | (simp [*]; done)), H', ⟨by have := HJ2.out; have := HK2.out; first | omega | exact Nat.le_refl _⟩, ⟨by repeat (first | (with_reducible first | exact HB.out | apply below_alloc | apply pw_below_drewN | apply below_drew1) | exact HB.out)⟩⟩
                case rest =>
                  clear HC16
                  try clear c1
                  try clear p1
                  try clear q1
                  try clear hx1
                  try clear c2
                  try clear p2
                  try clear c4
                  try clear c4b0
                  try clear c4b1
                  try clear c4b2
                  try clear c5
                  try clear c5b0
                  try clear c5b1
                  try clear p6
                  try clear c7
                  try clear c8
                  try clear c8b0
                  try clear c9
                  try clear c9b0
                  try clear c10
                  try clear c10b0
                  try clear c12
                  try clear c12b0
                  try clear c14
                  try clear c15
                  try clear c15b0
                  try clear c15b1
                  try clear p16
                  try clear q16
                  try clear hx16
                  try clear c17
                  try clear c17b0
                  try clear hx161_0
                  try clear p161
                  try clear p2
                  try clear q161
                  obtain ⟨kq, x9_15, rfl, HA, HJ15, HB⟩ := hcut
                  cases kq with
                  | zero => exact absurd HA.out (by simp [money_Split.j2])
                  | succ kj15 =>
                    have H := HA.out
                    clear HA
                    simp only [money_Split.j2] at H
                    have H' := Aside0.mk H
                    clear H
                    go_wp2
                    go_loopg [10, 11, 56] kj15 (fun kq v10 v11 v56 w' => ∃ (x10_4 : List Int) (x11_4 : Int) (x56_4 : Int), v11 = .int .i64 x11_4 ∧ v56 = .int .i64 x56_4 ∧ Aside0 (money_Split.l1 kq a0 l1 x6_2 x9_15 x10_4 x11_4 l1 (l1.length : Int) x56_4 = some (r1, r2)) ∧ Aside0 (kq ≤ kj15) ∧ Aside0 (Kd.R (Kd.int .i64) 2 w' w.heap.size (fun _ => True) v10 x10_4) ∧ Aside0 (Below w.heap.size w w'))
                    case atStart => exact ⟨(([] : List Int)), (a0), (0), (by first | rfl | (simp; done) | (simp [*]; done)), (by first | rfl | (simp; done) | (simp [*]; done)), H', ⟨Nat.le_refl _⟩, ⟨by first | exact Kd.R_nil _ _ _ _ _ | exact Kd.N_nil _ _ _ _ _ | exact Kd.V_nil _ _ _ _ _ | exact Kd.Q_nil _ _ _ _ _ | exact Kd.S_nil _ _ _ _ _⟩, ⟨by repeat (first | (with_reducible first | exact HB.out | apply below_alloc | apply pw_below_drewN | apply below_drew1) | exact HB.out)⟩⟩
                    case round =>
                      clear H'
                      try clear c1
                      try clear p1
                      try clear q1
                      try clear hx1
                      try clear c2
                      try clear p2
                      try clear c4
                      try clear c4b0
                      try clear c4b1
                      try clear c4b2
                      try clear c5
                      try clear c5b0
                      try clear c5b1
                      try clear p6
                      try clear c7
                      try clear c8
                      try clear c8b0
                      try clear c9
                      try clear c9b0
                      try clear c10
                      try clear c10b0
                      try clear c12
                      try clear c12b0
                      try clear c14
                      try clear c15
                      try clear c15b0
                      try clear c15b1
                      try clear p16
                      try clear q16
                      try clear hx16
                      try clear c17
                      try clear c17b0
                      try clear hx161_0
                      try clear p1
                      try clear p16
                      try clear p161
                      try clear p2
                      try clear p6
                      try clear q1
                      try clear q16
                      try clear q161
                      obtain ⟨x10_4, x11_4, x56_4, rfl, rfl, HA, HK4, HO_10, HB⟩ := hrel
                      cases gk with
                      | zero => exact absurd HA.out (by simp [money_Split.l1])
                      | succ k4 =>
                        have H := HA.out
                        clear HA
                        simp only [money_Split.l1] at H
                        by_cases c18 : x56_4 < (l1.length : Int)
                        · rw [if_pos c18] at H
                          have c18b0 : decide (x56_4 < (l1.length : Int)) = true := decide_eq_true c18
                          clear c18
                          by_cases c19 : 0 ≤ x56_4
                          · rw [if_pos c19] at H
                            have c19b0 : decide (0 ≤ x56_4) = true := decide_eq_true c19
                            clear c19
                            by_cases c20 : x56_4 < (l1.length : Int)
                            · rw [if_pos c20] at H
                              have c20b0 : decide (x56_4 < (l1.length : Int)) = true := decide_eq_true c20
                              clear c20
                              replace H := Option.bind_eq_some_iff.mp H
                              obtain ⟨t164, A210, H⟩ := H
                              replace H : ((math_bits_Mul64.f t164 (IntKind.u64.wrap (rd l1 x56_4))).bind fun bt165 => ((math_bits_Div64.f k4 bt165.1 bt165.2 (IntKind.u64.wrap (x6_2))).bind fun bt167 => (if x10_4.length < 17592186044416 then (money_Split.l1 k4 a0 l1 x6_2 x9_15 (x10_4 ++ [wrap64 (x9_15 * (wrap64 (bt167.1)))]) (wrap64 (x11_4 - (wrap64 (x9_15 * (wrap64 (bt167.1)))))) l1 (l1.length : Int) (wrap64 (x56_4 + 1))) else (none)))) = some (r1, r2) := H
                              have A21 := Aside0.mk A210
                              clear A210
                              replace H := Option.bind_eq_some_iff.mp H
                              obtain ⟨⟨t165, t166⟩, A220, H⟩ := H
                              replace H : ((math_bits_Div64.f k4 t165 t166 (IntKind.u64.wrap (x6_2))).bind fun bt167 => (if x10_4.length < 17592186044416 then (money_Split.l1 k4 a0 l1 x6_2 x9_15 (x10_4 ++ [wrap64 (x9_15 * (wrap64 (bt167.1)))]) (wrap64 (x11_4 - (wrap64 (x9_15 * (wrap64 (bt167.1)))))) l1 (l1.length : Int) (wrap64 (x56_4 + 1))) else (none))) = some (r1, r2) := H
                              have A22 := Aside0.mk A220
                              clear A220
                              replace H := Option.bind_eq_some_iff.mp H
                              obtain ⟨⟨t167, t168⟩, A230, H⟩ := H
                              replace H : (if x10_4.length < 17592186044416 then (money_Split.l1 k4 a0 l1 x6_2 x9_15 (x10_4 ++ [wrap64 (x9_15 * (wrap64 (t167)))]) (wrap64 (x11_4 - (wrap64 (x9_15 * (wrap64 (t167)))))) l1 (l1.length : Int) (wrap64 (x56_4 + 1))) else (none)) = some (r1, r2) := H
                              have A23 := Aside0.mk A230
                              clear A230
                              by_cases c24 : x10_4.length < 17592186044416
                              · rw [if_pos c24] at H
                                have LMc24 := Aside0.mk c24
                                clear c24
                                obtain ⟨y169, hy169⟩ : ∃ y_ : List Int, y_ = (x10_4 ++ [wrap64 (x9_15 * (wrap64 (t167)))]) := ⟨_, rfl⟩
                                replace H : (money_Split.l1 k4 a0 l1 x6_2 x9_15 y169 (wrap64 (x11_4 - (wrap64 (x9_15 * (wrap64 (t167)))))) l1 (l1.length : Int) (wrap64 (x56_4 + 1))) = some (r1, r2) := by first | (rw [hy169]; with_reducible exact H) | (have H2_ := (Option.bind_some _ _).symm.trans H; rw [hy169]; with_reducible exact H2_) | (have H2_ := (Option.bind_some _ _).symm.trans H; with_reducible exact H2_) | with_reducible exact H | (rw [hy169]; exact H) | exact H
                                have Ny169 := Aside0.mk hy169
                                clear hy169
                                have H' := Aside0.mk H
                                clear H
                                have p163 : 0 ≤ (x56_4 : Int) := of_decide_eq_true (by first | (with_reducible assumption) | assumption)
                                have q163 : x56_4 < (l1.length : Int) := of_decide_eq_true (by first | (with_reducible assumption) | assumption)
                                obtain ⟨ad163, e163, hx163_0⟩ := Kd.at_int HR1.out x56_4 p163 q163
                                cases e163
                                try replace hx163_0 := (HB.out.cell (World.block_lt_of_cell? w _ hx163_0)).trans hx163_0
                                replace p163 := eq_true p163
                                replace q163 := eq_true q163
                                go_wp2_with (first | ((with_reducible refine gate_callee (f := 56) rfl ?_); refine goesL_ (some 62) rfl rfl Try.func56 (by kernel_rfl) rfl #[.int .i64 a0] rfl (by (try simp only [List.map_toArray, List.map_cons, List.map_nil]); first | done | rfl | (simp only [List.length_drop, List.length_take]; rfl)) ?_; (with_reducible refine (money_size_int64.calls a0 t164 _ A21.out).mono ?_); rintro e w' ⟨rfl, ⟨nd, rfl⟩⟩; refine ⟨_, rfl, ?_⟩) | ((with_reducible refine gate_callee (f := 55) rfl ?_); refine goesL_ (some 65) rfl rfl Try.func55 (by kernel_rfl) rfl #[.int .u64 t164, .int .u64 (IntKind.u64.wrap (rd l1 x56_4))] rfl (by (try simp only [List.map_toArray, List.map_cons, List.map_nil]); first | done | rfl | (simp only [List.length_drop, List.length_take]; rfl)) ?_; (with_reducible refine (math_bits_Mul64.calls t164 (IntKind.u64.wrap (rd l1 x56_4)) t165 t166 _ A22.out).mono ?_); rintro e w' ⟨rfl, ⟨nd, rfl⟩⟩; refine ⟨_, rfl, ?_⟩) | ((with_reducible refine gate_callee (f := 49) rfl ?_); refine goesL_ (some 73) rfl rfl Try.func49 (by kernel_rfl) rfl #[.int .u64 t165, .int .u64 t166, .int .u64 (IntKind.u64.wrap (x6_2))] rfl (by (try simp only [List.map_toArray, List.map_cons, List.map_nil]); first | done | rfl | (simp only [List.length_drop, List.length_take]; rfl)) ?_; (with_reducible refine (math_bits_Div64.calls k4 t165 t166 (IntKind.u64.wrap (x6_2)) t167 t168 _ A23.out).mono ?_); rintro e w' ⟨rfl, ⟨nd, rfl⟩⟩; refine ⟨_, rfl, ?_⟩) | ((with_reducible refine gate_builtin (b := .append) (xs := #[.tmp 76, .tmp 81]) rfl ?_); (try (refine gate_guard (by rfl) ?_; dsimp only)); at_builtin; refine Kd.R_append (Kd.int .i64) (w0 := w) w.heap.size rfl (.tmp 76) (.tmp 81) 36 2 (.int .i64 0) 8 rfl Try.underlying36 info2 rfl (by decide) (by omega) u10 x10_4 (wrap64 (x9_15 * (wrap64 (t167)))) [.int .i64 (wrap64 (x9_15 * (wrap64 (t167))))] (fun _ => True) (fun _ => False) rfl rfl ?aP (fun _ hk => hk.elim) ?aF ?aO ?aB ?aS ?aL ?_; (case aP => exact rfl); (case aB => exact (by repeat (first | (with_reducible first | exact HB.out | apply below_alloc | apply pw_below_drewN | apply below_drew1) | exact HB.out))); (case aF => exact (fun _ _ => trivial)); (case aO => exact (by (with_reducible repeat (first | apply Kd.R_alloc | apply Kd.R_drewN | apply Kd.R_drew)); exact HO_10.out)); (case aS => exact (below_size (by repeat (first | (with_reducible first | exact HB.out | apply below_alloc | apply pw_below_drewN | apply below_drew1) | exact HB.out)))); (case aL => have := LMc24.out; omega); intro v170 w25 ho hb hg hat; rw [← Ny169.out] at ho; have n0_ := Aside0.mk (hb); have n1_ := Aside0.mk (ho); clear HB; clear HO_10; have HB := n0_; have HO171 := n1_; clear n0_ n1_; clear ho hb hg hat))
                                go_roundg k4
                                case measure => have := HJ2.out; have := HK2.out; have := HJ15.out; have := HK4.out; omega
                                case rel => exact ⟨(y169), (wrap64 (x11_4 - (wrap64 (x9_15 * (wrap64 (t167)))))), (wrap64 (x56_4 + 1)), (by first | rfl | (simp; done) | (simp [*]; done)), (by first | rfl | (simp; done) | (simp [*]; done)), H', ⟨by have := HJ2.out; have := HK2.out; have := HJ15.out; have := HK4.out; omega⟩, ⟨by (with_reducible repeat (first | apply Kd.R_alloc | apply Kd.R_drewN | apply Kd.R_drew)); exact HO171.out⟩, ⟨by repeat (first | (with_reducible first | exact HB.out | apply below_alloc | apply pw_below_drewN | apply below_drew1) | exact HB.out)⟩⟩
                              · rw [if_neg c24] at H
                                exact absurd H (by simp)
                            · rw [if_neg c20] at H
                              exact absurd H (by simp)
                          · rw [if_neg c19] at H
                            exact absurd H (by simp)
                        · rw [if_neg c18] at H
                          have c18b0 : decide (x56_4 < (l1.length : Int)) = false := decide_eq_false c18
                          clear c18
                          have H' := Aside0.mk H
                          clear H
                          go_wp2
                          go_loopg [11, 18] k4 (fun kq v11 v18 w' => ∃ (x10_5 : List Int) (x11_5 : Int) (x18_5 : Int), v11 = .int .i64 x11_5 ∧ v18 = .int .i64 x18_5 ∧ Aside0 (money_Split.l2 kq l1 x9_15 x10_5 x11_5 x18_5 = some (r1, r2)) ∧ Aside0 (kq ≤ k4) ∧ Aside0 (Kd.R (Kd.int .i64) 2 w' w.heap.size (fun _ => True) u10 x10_5) ∧ Aside0 (Below w.heap.size w w'))
                          case atStart => exact ⟨(x10_4), (x11_4), (0), (by first | rfl | (simp; done) | (simp [*]; done)), (by first | rfl | (simp; done) | (simp [*]; done)), H', ⟨Nat.le_refl _⟩, ⟨by (with_reducible repeat (first | apply Kd.R_alloc | apply Kd.R_drewN | apply Kd.R_drew)); exact HO_10.out⟩, ⟨by repeat (first | (with_reducible first | exact HB.out | apply below_alloc | apply pw_below_drewN | apply below_drew1) | exact HB.out)⟩⟩
                          case round =>
                            clear H'
                            try clear c1
                            try clear p1
                            try clear q1
                            try clear hx1
                            try clear c2
                            try clear p2
                            try clear c4
                            try clear c4b0
                            try clear c4b1
                            try clear c4b2
                            try clear c5
                            try clear c5b0
                            try clear c5b1
                            try clear p6
                            try clear c7
                            try clear c8
                            try clear c8b0
                            try clear c9
                            try clear c9b0
                            try clear c10
                            try clear c10b0
                            try clear c12
                            try clear c12b0
                            try clear c14
                            try clear c15
                            try clear c15b0
                            try clear c15b1
                            try clear p16
                            try clear q16
                            try clear hx16
                            try clear c17
                            try clear c17b0
                            try clear c18
                            try clear c18b0
                            try clear c19
                            try clear c19b0
                            try clear c20
                            try clear c20b0
                            try clear c24
                            try clear hx161_0
                            try clear hx163_0
                            try clear p1
                            try clear p16
                            try clear p161
                            try clear p163
                            try clear p2
                            try clear p6
                            try clear q1
                            try clear q16
                            try clear q161
                            try clear q163
                            obtain ⟨x10_5, x11_5, x18_5, rfl, rfl, HA, HK5, HO_10, HB⟩ := hrel
                            cases gk with
                            | zero => exact absurd HA.out (by simp [money_Split.l2])
                            | succ k5 =>
                              have H := HA.out
                              clear HA
                              simp only [money_Split.l2] at H
                              by_cases c26 : x11_5 = 0
                              · rw [if_pos c26] at H
                                have c26b0 : (x11_5 == 0) = true := beq_iff_eq.mpr c26
                                have c26b1 : (x11_5 != 0) = false := bne_eq_false_iff_eq.mpr c26
                                clear c26
                                simp only [Option.some.injEq, Prod.mk.injEq] at H
                                obtain ⟨rfl, rfl⟩ := H
                                go_wp2
                                go_ret2
                                exact ⟨_, by first | rfl | (simp [errW_none, errW_some] <;> rfl) | (simp [*, errW_none, errW_some] <;> rfl), by (with_reducible repeat (first | apply Kd.R_alloc | apply Kd.R_drewN | apply Kd.R_drew)); exact HO_10.out, by repeat (first | (with_reducible first | exact HB.out | apply below_alloc | apply pw_below_drewN | apply below_drew1) | exact HB.out)⟩
                              · rw [if_neg c26] at H
                                have c26b0 : (x11_5 == 0) = false := beq_eq_false_iff_ne.mpr c26
                                have c26b1 : (x11_5 != 0) = true := bne_iff_ne.mpr c26
                                by_cases c27 : 0 ≤ x18_5
                                · rw [if_pos c27] at H
                                  have c27b0 : decide (0 ≤ x18_5) = true := decide_eq_true c27
                                  clear c27
                                  by_cases c28 : x18_5 < (l1.length : Int)
                                  · rw [if_pos c28] at H
                                    have c28b0 : decide (x18_5 < (l1.length : Int)) = true := decide_eq_true c28
                                    clear c28
                                    by_cases c29 : (rd l1 x18_5) > 0
                                    · rw [if_pos c29] at H
                                      have c29b0 : decide (0 < (rd l1 x18_5)) = true := decide_eq_true c29
                                      clear c29
                                      by_cases c30 : x18_5 < (x10_5.length : Int)
                                      · rw [if_pos c30] at H
                                        have c30b0 : decide (x18_5 < (x10_5.length : Int)) = true := decide_eq_true c30
                                        clear c30
                                        obtain ⟨y174, hy174⟩ : ∃ y_ : List Int, y_ = (x10_5.set (x18_5 : Int).toNat (wrap64 ((rd x10_5 x18_5) + x9_15))) := ⟨_, rfl⟩
                                        replace H : (if (x10_5.length : Int) = 0 then (none) else (money_Split.l2 k5 l1 x9_15 y174 (wrap64 (x11_5 - x9_15)) (Int.tmod (wrap64 (x18_5 + 1)) (x10_5.length : Int)))) = some (r1, r2) := by first | (rw [hy174]; with_reducible exact H) | (have H2_ := (Option.bind_some _ _).symm.trans H; rw [hy174]; with_reducible exact H2_) | (have H2_ := (Option.bind_some _ _).symm.trans H; with_reducible exact H2_) | with_reducible exact H | (rw [hy174]; exact H) | exact H
                                        have Ny174 := Aside0.mk hy174
                                        clear hy174
                                        by_cases c32 : (x10_5.length : Int) = 0
                                        · rw [if_pos c32] at H
                                          exact absurd H (by simp)
                                        · rw [if_neg c32] at H
                                          have c32b0 : ((x10_5.length : Int) == 0) = false := beq_eq_false_iff_ne.mpr c32
                                          have c32b1 : ((x10_5.length : Int) != 0) = true := bne_iff_ne.mpr c32
                                          have c32b2 : ¬ (x10_5 = []) := fun h_ => c32 (by rw [h_]; rfl)
                                          have H' := Aside0.mk H
                                          clear H
                                          have p172 : 0 ≤ (x18_5 : Int) := of_decide_eq_true (by first | (with_reducible assumption) | assumption)
                                          have q172 : x18_5 < (l1.length : Int) := of_decide_eq_true (by first | (with_reducible assumption) | assumption)
                                          obtain ⟨ad172, e172, hx172_0⟩ := Kd.at_int HR1.out x18_5 p172 q172
                                          cases e172
                                          try replace hx172_0 := (HB.out.cell (World.block_lt_of_cell? w _ hx172_0)).trans hx172_0
                                          replace p172 := eq_true p172
                                          replace q172 := eq_true q172
                                          obtain ⟨Ao33, co33, eo33⟩ := Kd.R_slice HO_10.out
                                          subst eo33
                                          have p173 : 0 ≤ (x18_5 : Int) := of_decide_eq_true (by first | (with_reducible assumption) | assumption)
                                          have q173 : x18_5 < (x10_5.length : Int) := of_decide_eq_true (by first | (with_reducible assumption) | assumption)
                                          obtain ⟨ad173, e173, hx173_0⟩ := Kd.at_int (Kd.R_reads' HO_10.out).2.2 x18_5 p173 q173
                                          cases e173
                                          replace p173 := eq_true p173
                                          replace q173 := eq_true q173
                                          have p31 : 0 ≤ (x18_5 : Int) := of_decide_eq_true (by first | (with_reducible assumption) | assumption)
                                          have q31 : (x18_5 : Int) < ((x10_5.length : Int) : Int) := of_decide_eq_true (by first | (with_reducible assumption) | assumption)
                                          obtain ⟨go31, co31, eo31, gb31, gl31, cl31, HG31⟩ := Kd.R_form HO_10.out (by omega)
                                          (first | cases eo31 | (injection eo31 with ea_ en_ ec_; (first | subst ea_ | (injection ea_ with ea_; subst ea_)); subst ec_; clear en_))
                                          have GB31 := Aside0.mk gb31
                                          have GG31 := Aside0.mk HG31
                                          clear gb31 gl31 HG31
                                          (first | simp only [add_plain] at hx173_0 | skip)
                                          obtain ⟨hx31_0, hf31_0⟩ := Kd.R_celln 0 HO_10.out (x18_5 : Int) p31 q31
                                          replace p31 := eq_true p31
                                          replace q31 := eq_true q31
                                          have HP34 := Kd.R_putg HO_10.out (x18_5 : Int) (wrap64 ((rd x10_5 x18_5) + x9_15))
                                          go_wp2_with (first | ((with_reducible refine gate_store (t := 2) (p := 108) rfl ?_); refine store_event (t := 2) (p := 108) (v := ?vo_w35) (w1 := (wr.setCell ⟨go31, (x18_5 : Int).toNat, none⟩ (.int .i64 (wrap64 ((rd x10_5 x18_5) + x9_15))))) ?hg ?ho ?hn ?hr ?_; (case ho => rfl); (case hg => rfl); (case hn => rfl); (case hr => first | (go_simp; done) | (go_simp; rfl)); intro w35 hw; have hg : wr.grownBy w35 (some go31) := (by rw [hw]; exact HP34.2); have hp_ : Kd.R (Kd.int .i64) 2 w35 w.heap.size (fun _ => True) (.slice (some ⟨go31, 0, none⟩) x10_5.length co33) y174 := (by rw [hw, Ny174.out]; exact HP34.1); clear HP34; have n0_ := Aside0.mk (hp_); have n1_ := Aside0.mk ((by rw [hw]; exact below_set (HB.out) GB31.out : Below w.heap.size w w35)); clear HO_10; clear HB; have HO_10 := n0_; have HB := n1_; clear n0_ n1_; clear hg hw hp_))
                                          go_roundg k5
                                          case measure => have := HJ2.out; have := HK2.out; have := HJ15.out; have := HK4.out; have := HK5.out; omega
                                          case rel => exact ⟨(y174), (wrap64 (x11_5 - x9_15)), (Int.tmod (wrap64 (x18_5 + 1)) (x10_5.length : Int)), (by first | rfl | (simp; done) | (simp [*]; done)), (by first | rfl | (simp; done) | (simp [*]; done)), H', ⟨by have := HJ2.out; have := HK2.out; have := HJ15.out; have := HK4.out; have := HK5.out; omega⟩, ⟨by (with_reducible repeat (first | apply Kd.R_alloc | apply Kd.R_drewN | apply Kd.R_drew)); exact HO_10.out⟩, ⟨by repeat (first | (with_reducible first | exact HB.out | apply below_alloc | apply pw_below_drewN | apply below_drew1) | exact HB.out)⟩⟩
                                      · rw [if_neg c30] at H
                                        exact absurd H (by simp)
                                    · rw [if_neg c29] at H
                                      have c29b0 : decide (0 < (rd l1 x18_5)) = false := decide_eq_false c29
                                      clear c29
                                      by_cases c36 : (x10_5.length : Int) = 0
                                      · rw [if_pos c36] at H
                                        exact absurd H (by simp)
                                      · rw [if_neg c36] at H
                                        have c36b0 : ((x10_5.length : Int) == 0) = false := beq_eq_false_iff_ne.mpr c36
                                        have c36b1 : ((x10_5.length : Int) != 0) = true := bne_iff_ne.mpr c36
                                        have c36b2 : ¬ (x10_5 = []) := fun h_ => c36 (by rw [h_]; rfl)
                                        have H' := Aside0.mk H
                                        clear H
                                        have p172 : 0 ≤ (x18_5 : Int) := of_decide_eq_true (by first | (with_reducible assumption) | assumption)
                                        have q172 : x18_5 < (l1.length : Int) := of_decide_eq_true (by first | (with_reducible assumption) | assumption)
                                        obtain ⟨ad172, e172, hx172_0⟩ := Kd.at_int HR1.out x18_5 p172 q172
                                        cases e172
                                        try replace hx172_0 := (HB.out.cell (World.block_lt_of_cell? w _ hx172_0)).trans hx172_0
                                        replace p172 := eq_true p172
                                        replace q172 := eq_true q172
                                        obtain ⟨Ao37, co37, eo37⟩ := Kd.R_slice HO_10.out
                                        subst eo37
                                        go_wp2
                                        go_roundg k5
                                        case measure => have := HJ2.out; have := HK2.out; have := HJ15.out; have := HK4.out; have := HK5.out; omega
                                        case rel => exact ⟨(x10_5), (x11_5), (Int.tmod (wrap64 (x18_5 + 1)) (x10_5.length : Int)), (by first | rfl | (simp; done) | (simp [*]; done)), (by first | rfl | (simp; done) | (simp [*]; done)), H', ⟨by have := HJ2.out; have := HK2.out; have := HJ15.out; have := HK4.out; have := HK5.out; omega⟩, ⟨by (with_reducible repeat (first | apply Kd.R_alloc | apply Kd.R_drewN | apply Kd.R_drew)); exact HO_10.out⟩, ⟨by repeat (first | (with_reducible first | exact HB.out | apply below_alloc | apply pw_below_drewN | apply below_drew1) | exact HB.out)⟩⟩
                                  · rw [if_neg c28] at H
                                    exact absurd H (by simp)
                                · rw [if_neg c27] at H
                                  exact absurd H (by simp)

end Go.Proofs.Ytohbdjfabghagaa.S
