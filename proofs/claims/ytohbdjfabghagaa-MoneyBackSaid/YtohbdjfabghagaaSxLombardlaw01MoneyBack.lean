/- Printed by a program of this session out of the translation: what each function called here computes, and that its call comes to just that. Conditions: none beyond those that each theorem names. -/
import Derived.Test.YtohbdjfabghagaaSx0
import Derived.Test.YtohbdjfabghagaaSxMoneySum
import Derived.Test.YtohbdjfabghagaaSxMoneyAdd
import Derived.Test.YtohbdjfabghagaaSxLombardlaw01Alive
import Derived.Test.YtohbdjfabghagaaSxMoneySub
import Derived.Test.YtohbdjfabghagaaSxMoneyMul
import Derived.Test.YtohbdjfabghagaaSxMoneyNeg
namespace Go.Proofs.Ytohbdjfabghagaa.S
open Go.RowKit Go.Proofs.YtohbdjfabghagaaW.PrintWords Go.Proofs.YtohbdjfabghagaaW.PrintLast Go.Proofs.YtohbdjfabghagaaW.PrintMore
attribute [local go_sem] max2_int min2_int max_two min_two max_three min_three max_four min_four   -- for this text's walks alone
attribute [local go_sem] Go.Proofs.Ytohbdjfabghagaa.XWalk.cell2
set_option linter.unusedVariables false
set_option linter.unusedSimpArgs false

/-! ### lombardlaw01_MoneyBack: function 11 -/
mutual
def lombardlaw01_MoneyBack.j0 : Nat → Int → Int → Option (Bool)
  | 0, _, _ => none
  | k + 1, x0, x2 => (money_Neg.f x0).bind fun bt380 => (if bt380.2 = 0 then ((money_Neg.f bt380.1).bind fun bt382 => (if bt382.1 = x0 then (if bt382.2 = 0 then (lombardlaw01_MoneyBack.j1 k x0 x2) else (some false)) else (some false))) else (lombardlaw01_MoneyBack.j1 k x0 x2))
def lombardlaw01_MoneyBack.j1 : Nat → Int → Int → Option (Bool)
  | 0, _, _ => none
  | k + 1, x0, x2 => lombardlaw01_MoneyBack.l0 k x0 x2 ([] : List Int) x2 0
def lombardlaw01_MoneyBack.l0 : Nat → Int → Int → List Int → Int → Int → Option (Bool)
  | 0, _, _, _, _, _ => none
  | k + 1, x0, x2, x15, x62, x63 => if x63 < x62 then (if x15.length < 17592186044416 then (lombardlaw01_MoneyBack.l0 k x0 x2 (x15 ++ [x0]) x62 ((x63 + 1) % 256)) else (none)) else ((money_Mul.f x0 (wrap64 (x2))).bind fun bt387 => ((money_Sum.f k x15).bind fun bt389 => (if bt387.1 = bt389.1 then (some (bt387.2 == bt389.2)) else (some false))))
end
def lombardlaw01_MoneyBack.f (k : Nat) (a0 : Int) (a1 : Int) (a2 : Int) : Option (Bool) := (lombardlaw01_alive.f k).bind fun t375 => (if t375 = true then ((money_Add.f a0 a1).bind fun bt376 => (if bt376.2 = 0 then ((money_Sub.f bt376.1 a1).bind fun bt378 => (if bt378.1 = a0 then (if bt378.2 = 0 then (lombardlaw01_MoneyBack.j0 k a0 a2) else (some false)) else (some false))) else (lombardlaw01_MoneyBack.j0 k a0 a2))) else (some false))
theorem lombardlaw01_MoneyBack.mono_l : ∀ k, (∀ y0 y1, LeO (lombardlaw01_MoneyBack.j0 k y0 y1) (lombardlaw01_MoneyBack.j0 (k + 1) y0 y1)) ∧ (∀ y0 y1, LeO (lombardlaw01_MoneyBack.j1 k y0 y1) (lombardlaw01_MoneyBack.j1 (k + 1) y0 y1)) ∧ (∀ y0 y1 y2 y3 y4, LeO (lombardlaw01_MoneyBack.l0 k y0 y1 y2 y3 y4) (lombardlaw01_MoneyBack.l0 (k + 1) y0 y1 y2 y3 y4))
  | 0 => ⟨fun _ _ r h => by simp [lombardlaw01_MoneyBack.j0] at h, fun _ _ r h => by simp [lombardlaw01_MoneyBack.j1] at h, fun _ _ _ _ _ r h => by simp [lombardlaw01_MoneyBack.l0] at h⟩
  | k + 1 => by
    obtain ⟨ih0, ih1, ih2⟩ := lombardlaw01_MoneyBack.mono_l k
    refine ⟨?_, ?_, ?_⟩
    · intro y0 y1
      unfold lombardlaw01_MoneyBack.j0
      repeat' first
      | (with_reducible exact ih0 _ _)
      | (with_reducible exact ih1 _ _)
      | (with_reducible exact ih2 _ _ _ _ _)
      | (with_reducible exact lombardlaw01_alive.mono _)
      | (with_reducible exact money_Sum.mono _ _)
      | (with_reducible exact LeO.refl _)
      | (with_reducible exact LeO.none _)
      | (with_reducible refine LeO.ite ?_ ?_)
      | (with_reducible refine LeO.bind ?_ (fun _ => ?_))
      | exact ih0 _ _
      | exact ih1 _ _
      | exact ih2 _ _ _ _ _
      | exact lombardlaw01_alive.mono _
      | exact money_Sum.mono _ _
      | exact LeO.none _
      | refine LeO.ite ?_ ?_
      | refine LeO.bind ?_ (fun _ => ?_)
    · intro y0 y1
      unfold lombardlaw01_MoneyBack.j1
      repeat' first
      | (with_reducible exact ih0 _ _)
      | (with_reducible exact ih1 _ _)
      | (with_reducible exact ih2 _ _ _ _ _)
      | (with_reducible exact lombardlaw01_alive.mono _)
      | (with_reducible exact money_Sum.mono _ _)
      | (with_reducible exact LeO.refl _)
      | (with_reducible exact LeO.none _)
      | (with_reducible refine LeO.ite ?_ ?_)
      | (with_reducible refine LeO.bind ?_ (fun _ => ?_))
      | exact ih0 _ _
      | exact ih1 _ _
      | exact ih2 _ _ _ _ _
      | exact lombardlaw01_alive.mono _
      | exact money_Sum.mono _ _
      | exact LeO.none _
      | refine LeO.ite ?_ ?_
      | refine LeO.bind ?_ (fun _ => ?_)
    · intro y0 y1 y2 y3 y4
      unfold lombardlaw01_MoneyBack.l0
      repeat' first
      | (with_reducible exact ih0 _ _)
      | (with_reducible exact ih1 _ _)
      | (with_reducible exact ih2 _ _ _ _ _)
      | (with_reducible exact lombardlaw01_alive.mono _)
      | (with_reducible exact money_Sum.mono _ _)
      | (with_reducible exact LeO.refl _)
      | (with_reducible exact LeO.none _)
      | (with_reducible refine LeO.ite ?_ ?_)
      | (with_reducible refine LeO.bind ?_ (fun _ => ?_))
      | exact ih0 _ _
      | exact ih1 _ _
      | exact ih2 _ _ _ _ _
      | exact lombardlaw01_alive.mono _
      | exact money_Sum.mono _ _
      | exact LeO.none _
      | refine LeO.ite ?_ ?_
      | refine LeO.bind ?_ (fun _ => ?_)
theorem lombardlaw01_MoneyBack.mono : ∀ a0 a1 a2 k, LeO (lombardlaw01_MoneyBack.f k a0 a1 a2) (lombardlaw01_MoneyBack.f (k + 1) a0 a1 a2) := by
  intro a0 a1 a2 k
  obtain ⟨ih0, ih1, ih2⟩ := lombardlaw01_MoneyBack.mono_l k
  unfold lombardlaw01_MoneyBack.f
  repeat' first
      | (with_reducible exact ih0 _ _)
      | (with_reducible exact ih1 _ _)
      | (with_reducible exact ih2 _ _ _ _ _)
      | (with_reducible exact lombardlaw01_alive.mono _)
      | (with_reducible exact money_Sum.mono _ _)
      | (with_reducible exact LeO.refl _)
      | (with_reducible exact LeO.none _)
      | (with_reducible refine LeO.ite ?_ ?_)
      | (with_reducible refine LeO.bind ?_ (fun _ => ?_))
      | exact ih0 _ _
      | exact ih1 _ _
      | exact ih2 _ _ _ _ _
      | exact lombardlaw01_alive.mono _
      | exact money_Sum.mono _ _
      | exact LeO.none _
      | refine LeO.ite ?_ ?_
      | refine LeO.bind ?_ (fun _ => ?_)
set_option maxHeartbeats 8000000 in
set_option maxRecDepth 100000 in
theorem lombardlaw01_MoneyBack.calls (k : Nat) (a0 : Int) (a1 : Int) (a2 : Int) (r : Bool) (w : World) (h : lombardlaw01_MoneyBack.f k a0 a1 a2 = some r) :
    Calls Try.prog 11 #[.int .i64 a0, .int .i64 a1, .int .u8 a2] w fun e w' => e = .returned (.bool r) ∧ Below w.heap.size w w' := by
  have HB := Aside0.mk (Below.refl w.heap.size w)
  have H : ((lombardlaw01_alive.f k).bind fun t375 => (if t375 = true then ((money_Add.f a0 a1).bind fun bt376 => (if bt376.2 = 0 then ((money_Sub.f bt376.1 a1).bind fun bt378 => (if bt378.1 = a0 then (if bt378.2 = 0 then (lombardlaw01_MoneyBack.j0 k a0 a2) else (some false)) else (some false))) else (lombardlaw01_MoneyBack.j0 k a0 a2))) else (some false))) = some r := h
  clear h
  replace H := Option.bind_eq_some_iff.mp H
  obtain ⟨t375, A40, H⟩ := H
  replace H : (if t375 = true then ((money_Add.f a0 a1).bind fun bt376 => (if bt376.2 = 0 then ((money_Sub.f bt376.1 a1).bind fun bt378 => (if bt378.1 = a0 then (if bt378.2 = 0 then (lombardlaw01_MoneyBack.j0 k a0 a2) else (some false)) else (some false))) else (lombardlaw01_MoneyBack.j0 k a0 a2))) else (some false)) = some r := H
  have A4 := Aside0.mk A40
  clear A40
  by_cases c5 : t375 = true
  · subst c5
    have H1 : ((money_Add.f a0 a1).bind fun bt376 => (if bt376.2 = 0 then ((money_Sub.f bt376.1 a1).bind fun bt378 => (if bt378.1 = a0 then (if bt378.2 = 0 then (lombardlaw01_MoneyBack.j0 k a0 a2) else (some false)) else (some false))) else (lombardlaw01_MoneyBack.j0 k a0 a2))) = some r := by rw [if_pos rfl] at H; exact H
    clear H
    have H := H1
    clear H1
    replace H := Option.bind_eq_some_iff.mp H
    obtain ⟨⟨t376, t377⟩, A60, H⟩ := H
    replace H : (if t377 = 0 then ((money_Sub.f t376 a1).bind fun bt378 => (if bt378.1 = a0 then (if bt378.2 = 0 then (lombardlaw01_MoneyBack.j0 k a0 a2) else (some false)) else (some false))) else (lombardlaw01_MoneyBack.j0 k a0 a2)) = some r := H
    have A6 := Aside0.mk A60
    clear A60
    have HC7 := Aside0.mk H
    clear H
    go_enter Try.func11, Try.ntmps11
    go_upto_if 29 with (first | ((with_reducible refine gate_callee (f := 20) rfl ?_); refine goesL_ (some 20) rfl rfl Try.func20 (by kernel_rfl) rfl #[] rfl (by (try simp only [List.map_toArray, List.map_cons, List.map_nil]); first | done | rfl | (simp only [List.length_drop, List.length_take]; rfl)) ?_; (with_reducible refine (lombardlaw01_alive.calls k  true _ A4.out).mono ?_); rintro e w8 ⟨rfl, hb⟩; refine ⟨_, rfl, ?_⟩; have n0_ := Aside0.mk (below_step (by repeat (first | (with_reducible first | exact HB.out | apply below_alloc | apply pw_below_drewN | apply below_drew1) | exact HB.out)) hb); clear HB; have HB := n0_; clear n0_; (try clear hb); (try clear hb2); (try clear hk); (try clear hi)) | ((with_reducible refine gate_callee (f := 29) rfl ?_); refine goesL_ (some 25) rfl rfl Try.func29 (by kernel_rfl) rfl #[.int .i64 a0, .int .i64 a1] rfl (by (try simp only [List.map_toArray, List.map_cons, List.map_nil]); first | done | rfl | (simp only [List.length_drop, List.length_take]; rfl)) ?_; (with_reducible refine (money_Add.calls a0 a1 t376 t377 _ A6.out).mono ?_); rintro e w' ⟨rfl, ⟨nd, rfl⟩⟩; refine ⟨_, rfl, ?_⟩))
    (try simp only [Act.put, List.setIfInBounds_toArray, List.set_cons_zero, List.set_cons_succ])
    go_cut [] (fun wc => ∃ (kq : Nat), Aside0 (lombardlaw01_MoneyBack.j0 kq a0 a2 = some r) ∧ Aside0 (kq ≤ k) ∧ Aside0 (Below w.heap.size w wc))
    case first =>
      have H := HC7.out
      clear HC7
      by_cases c9 : t377 = 0
      · rw [if_pos c9] at H
        have c9b0 : (t377 == 0) = true := beq_iff_eq.mpr c9
        have c9b1 : (t377 != 0) = false := bne_eq_false_iff_eq.mpr c9
        clear c9
        (first | rw [c9b0] | (simp only [i64_w, i32_w]; rw [c9b0]) | skip)
        replace H := Option.bind_eq_some_iff.mp H
        obtain ⟨⟨t378, t379⟩, A100, H⟩ := H
        replace H : (if t378 = a0 then (if t379 = 0 then (lombardlaw01_MoneyBack.j0 k a0 a2) else (some false)) else (some false)) = some r := H
        have A10 := Aside0.mk A100
        clear A100
        have HC11 := Aside0.mk H
        clear H
        go_upto_region 6 with (first | ((with_reducible refine gate_callee (f := 31) rfl ?_); refine goesL_ (some 33) rfl rfl Try.func31 (by kernel_rfl) rfl #[.int .i64 t376, .int .i64 a1] rfl (by (try simp only [List.map_toArray, List.map_cons, List.map_nil]); first | done | rfl | (simp only [List.length_drop, List.length_take]; rfl)) ?_; (with_reducible refine (money_Sub.calls t376 a1 t378 t379 _ A10.out).mono ?_); rintro e w' ⟨rfl, ⟨nd, rfl⟩⟩; refine ⟨_, rfl, ?_⟩))
        have H := HC11.out
        clear HC11
        by_cases c12 : t378 = a0
        · rw [if_pos c12] at H
          have c12b0 : (t378 == a0) = true := beq_iff_eq.mpr c12
          have c12b1 : (t378 != a0) = false := bne_eq_false_iff_eq.mpr c12
          clear c12
          by_cases c13 : t379 = 0
          · rw [if_pos c13] at H
            have c13b0 : (t379 == 0) = true := beq_iff_eq.mpr c13
            have c13b1 : (t379 != 0) = false := bne_eq_false_iff_eq.mpr c13
            clear c13
            have H' := Aside0.mk H
            clear H
            go_wp2
            go_meet
            case rel => exact ⟨_, H', ⟨by first | omega | exact Nat.le_refl _⟩, ⟨by repeat (first | (with_reducible first | exact HB.out | apply below_alloc | apply pw_below_drewN | apply below_drew1) | exact HB.out)⟩⟩
          · rw [if_neg c13] at H
            have c13b0 : (t379 == 0) = false := beq_eq_false_iff_ne.mpr c13
            have c13b1 : (t379 != 0) = true := bne_iff_ne.mpr c13
            obtain rfl := Option.some.inj H
            go_wp2
            go_ret
            exact ⟨by first | rfl | (simp [errW_none, errW_some] <;> rfl) | (simp [*, errW_none, errW_some] <;> rfl), by repeat (first | (with_reducible first | exact HB.out | apply below_alloc | apply pw_below_drewN | apply below_drew1) | exact HB.out)⟩
        · rw [if_neg c12] at H
          have c12b0 : (t378 == a0) = false := beq_eq_false_iff_ne.mpr c12
          have c12b1 : (t378 != a0) = true := bne_iff_ne.mpr c12
          obtain rfl := Option.some.inj H
          go_wp2
          go_ret
          exact ⟨by first | rfl | (simp [errW_none, errW_some] <;> rfl) | (simp [*, errW_none, errW_some] <;> rfl), by repeat (first | (with_reducible first | exact HB.out | apply below_alloc | apply pw_below_drewN | apply below_drew1) | exact HB.out)⟩
      · rw [if_neg c9] at H
        have c9b0 : (t377 == 0) = false := beq_eq_false_iff_ne.mpr c9
        have c9b1 : (t377 != 0) = true := bne_iff_ne.mpr c9
        (first | rw [c9b0] | (simp only [i64_w, i32_w]; rw [c9b0]) | skip)
        have H' := Aside0.mk H
        clear H
        go_wp2
        go_meet
        case rel => exact ⟨_, H', ⟨by first | omega | exact Nat.le_refl _⟩, ⟨by repeat (first | (with_reducible first | exact HB.out | apply below_alloc | apply pw_below_drewN | apply below_drew1) | exact HB.out)⟩⟩
    case rest =>
      clear HC7
      try clear c1
      try clear c2
      try clear p2
      try clear c3
      try clear c5
      try clear c9
      try clear c9b0
      try clear c9b1
      try clear c11
      try clear c12
      try clear c12b0
      try clear c12b1
      try clear c13
      try clear c13b0
      try clear c13b1
      obtain ⟨kq, HA, HJ6, HB⟩ := hcut
      cases kq with
      | zero => exact absurd HA.out (by simp [lombardlaw01_MoneyBack.j0])
      | succ kj6 =>
        have H := HA.out
        clear HA
        simp only [lombardlaw01_MoneyBack.j0] at H
        replace H := Option.bind_eq_some_iff.mp H
        obtain ⟨⟨t380, t381⟩, A140, H⟩ := H
        replace H : (if t381 = 0 then ((money_Neg.f t380).bind fun bt382 => (if bt382.1 = a0 then (if bt382.2 = 0 then (lombardlaw01_MoneyBack.j1 kj6 a0 a2) else (some false)) else (some false))) else (lombardlaw01_MoneyBack.j1 kj6 a0 a2)) = some r := H
        have A14 := Aside0.mk A140
        clear A140
        have HC15 := Aside0.mk H
        clear H
        go_upto_if 49 with (first | ((with_reducible refine gate_callee (f := 35) rfl ?_); refine goesL_ (some 45) rfl rfl Try.func35 (by kernel_rfl) rfl #[.int .i64 a0] rfl (by (try simp only [List.map_toArray, List.map_cons, List.map_nil]); first | done | rfl | (simp only [List.length_drop, List.length_take]; rfl)) ?_; (with_reducible refine (money_Neg.calls a0 t380 t381 _ A14.out).mono ?_); rintro e w' ⟨rfl, ⟨nd, rfl⟩⟩; refine ⟨_, rfl, ?_⟩))
        (try simp only [Act.put, List.setIfInBounds_toArray, List.set_cons_zero, List.set_cons_succ])
        go_cut [] (fun wc => ∃ (kq : Nat), Aside0 (lombardlaw01_MoneyBack.j1 kq a0 a2 = some r) ∧ Aside0 (kq ≤ kj6) ∧ Aside0 (Below w.heap.size w wc))
        case first =>
          have H := HC15.out
          clear HC15
          by_cases c16 : t381 = 0
          · rw [if_pos c16] at H
            have c16b0 : (t381 == 0) = true := beq_iff_eq.mpr c16
            have c16b1 : (t381 != 0) = false := bne_eq_false_iff_eq.mpr c16
            clear c16
            (first | rw [c16b0] | (simp only [i64_w, i32_w]; rw [c16b0]) | skip)
            replace H := Option.bind_eq_some_iff.mp H
            obtain ⟨⟨t382, t383⟩, A170, H⟩ := H
            replace H : (if t382 = a0 then (if t383 = 0 then (lombardlaw01_MoneyBack.j1 kj6 a0 a2) else (some false)) else (some false)) = some r := H
            have A17 := Aside0.mk A170
            clear A170
            have HC18 := Aside0.mk H
            clear H
            go_upto_region 11 with (first | ((with_reducible refine gate_callee (f := 35) rfl ?_); refine goesL_ (some 52) rfl rfl Try.func35 (by kernel_rfl) rfl #[.int .i64 t380] rfl (by (try simp only [List.map_toArray, List.map_cons, List.map_nil]); first | done | rfl | (simp only [List.length_drop, List.length_take]; rfl)) ?_; (with_reducible refine (money_Neg.calls t380 t382 t383 _ A17.out).mono ?_); rintro e w' ⟨rfl, ⟨nd, rfl⟩⟩; refine ⟨_, rfl, ?_⟩))
            have H := HC18.out
            clear HC18
            by_cases c19 : t382 = a0
            · rw [if_pos c19] at H
              have c19b0 : (t382 == a0) = true := beq_iff_eq.mpr c19
              have c19b1 : (t382 != a0) = false := bne_eq_false_iff_eq.mpr c19
              clear c19
              by_cases c20 : t383 = 0
              · rw [if_pos c20] at H
                have c20b0 : (t383 == 0) = true := beq_iff_eq.mpr c20
                have c20b1 : (t383 != 0) = false := bne_eq_false_iff_eq.mpr c20
                clear c20
                have H' := Aside0.mk H
                clear H
                go_wp2
                go_meet
                case rel => exact ⟨_, H', ⟨by have := HJ6.out; first | omega | exact Nat.le_refl _⟩, ⟨by repeat (first | (with_reducible first | exact HB.out | apply below_alloc | apply pw_below_drewN | apply below_drew1) | exact HB.out)⟩⟩
              · rw [if_neg c20] at H
                have c20b0 : (t383 == 0) = false := beq_eq_false_iff_ne.mpr c20
                have c20b1 : (t383 != 0) = true := bne_iff_ne.mpr c20
                obtain rfl := Option.some.inj H
                go_wp2
                go_ret
                exact ⟨by first | rfl | (simp [errW_none, errW_some] <;> rfl) | (simp [*, errW_none, errW_some] <;> rfl), by repeat (first | (with_reducible first | exact HB.out | apply below_alloc | apply pw_below_drewN | apply below_drew1) | exact HB.out)⟩
            · rw [if_neg c19] at H
              have c19b0 : (t382 == a0) = false := beq_eq_false_iff_ne.mpr c19
              have c19b1 : (t382 != a0) = true := bne_iff_ne.mpr c19
              obtain rfl := Option.some.inj H
              go_wp2
              go_ret
              exact ⟨by first | rfl | (simp [errW_none, errW_some] <;> rfl) | (simp [*, errW_none, errW_some] <;> rfl), by repeat (first | (with_reducible first | exact HB.out | apply below_alloc | apply pw_below_drewN | apply below_drew1) | exact HB.out)⟩
          · rw [if_neg c16] at H
            have c16b0 : (t381 == 0) = false := beq_eq_false_iff_ne.mpr c16
            have c16b1 : (t381 != 0) = true := bne_iff_ne.mpr c16
            (first | rw [c16b0] | (simp only [i64_w, i32_w]; rw [c16b0]) | skip)
            have H' := Aside0.mk H
            clear H
            go_wp2
            go_meet
            case rel => exact ⟨_, H', ⟨by have := HJ6.out; first | omega | exact Nat.le_refl _⟩, ⟨by repeat (first | (with_reducible first | exact HB.out | apply below_alloc | apply pw_below_drewN | apply below_drew1) | exact HB.out)⟩⟩
        case rest =>
          clear HC15
          try clear c1
          try clear c2
          try clear p2
          try clear c3
          try clear c5
          try clear c9
          try clear c9b0
          try clear c9b1
          try clear c11
          try clear c12
          try clear c12b0
          try clear c12b1
          try clear c13
          try clear c13b0
          try clear c13b1
          try clear c16
          try clear c16b0
          try clear c16b1
          try clear c19
          try clear c19b0
          try clear c19b1
          try clear c20
          try clear c20b0
          try clear c20b1
          try clear p2
          obtain ⟨kq, HA, HJ14, HB⟩ := hcut
          cases kq with
          | zero => exact absurd HA.out (by simp [lombardlaw01_MoneyBack.j1])
          | succ kj14 =>
            have H := HA.out
            clear HA
            simp only [lombardlaw01_MoneyBack.j1] at H
            have H' := Aside0.mk H
            clear H
            go_wp2
            go_loopg [15, 63] kj14 (fun kq v15 v63 w' => ∃ (x15_3 : List Int) (x63_3 : Int), v63 = .int .u8 x63_3 ∧ Aside0 (lombardlaw01_MoneyBack.l0 kq a0 a2 x15_3 a2 x63_3 = some r) ∧ Aside0 (kq ≤ kj14) ∧ Aside0 (Kd.R (Kd.int .i64) 2 w' w.heap.size (fun _ => True) v15 x15_3) ∧ Aside0 (Below w.heap.size w w'))
            case atStart => exact ⟨(([] : List Int)), (0), (by first | rfl | (simp; done) | (simp [*]; done)), H', ⟨Nat.le_refl _⟩, ⟨by first | exact Kd.R_nil _ _ _ _ _ | exact Kd.N_nil _ _ _ _ _ | exact Kd.V_nil _ _ _ _ _ | exact Kd.Q_nil _ _ _ _ _ | exact Kd.S_nil _ _ _ _ _⟩, ⟨by repeat (first | (with_reducible first | exact HB.out | apply below_alloc | apply pw_below_drewN | apply below_drew1) | exact HB.out)⟩⟩
            case round =>
              clear H'
              try clear c1
              try clear c2
              try clear p2
              try clear c3
              try clear c5
              try clear c9
              try clear c9b0
              try clear c9b1
              try clear c11
              try clear c12
              try clear c12b0
              try clear c12b1
              try clear c13
              try clear c13b0
              try clear c13b1
              try clear c16
              try clear c16b0
              try clear c16b1
              try clear c19
              try clear c19b0
              try clear c19b1
              try clear c20
              try clear c20b0
              try clear c20b1
              try clear p2
              obtain ⟨x15_3, x63_3, rfl, HA, HK3, HO_15, HB⟩ := hrel
              cases gk with
              | zero => exact absurd HA.out (by simp [lombardlaw01_MoneyBack.l0])
              | succ k3 =>
                have H := HA.out
                clear HA
                simp only [lombardlaw01_MoneyBack.l0] at H
                by_cases c21 : x63_3 < a2
                · rw [if_pos c21] at H
                  have c21b0 : decide (x63_3 < a2) = true := decide_eq_true c21
                  clear c21
                  by_cases c22 : x15_3.length < 17592186044416
                  · rw [if_pos c22] at H
                    have LMc22 := Aside0.mk c22
                    clear c22
                    obtain ⟨y384, hy384⟩ : ∃ y_ : List Int, y_ = (x15_3 ++ [a0]) := ⟨_, rfl⟩
                    replace H : (lombardlaw01_MoneyBack.l0 k3 a0 a2 y384 a2 ((x63_3 + 1) % 256)) = some r := by first | (rw [hy384]; with_reducible exact H) | (have H2_ := (Option.bind_some _ _).symm.trans H; rw [hy384]; with_reducible exact H2_) | (have H2_ := (Option.bind_some _ _).symm.trans H; with_reducible exact H2_) | with_reducible exact H | (rw [hy384]; exact H) | exact H
                    have Ny384 := Aside0.mk hy384
                    clear hy384
                    have H' := Aside0.mk H
                    clear H
                    go_wp2_with (first | ((with_reducible refine gate_builtin (b := .append) (xs := #[.tmp 65, .tmp 67]) rfl ?_); at_builtin; refine Kd.R_append (Kd.int .i64) (w0 := w) w.heap.size rfl (.tmp 65) (.tmp 67) 36 2 (.int .i64 0) 8 rfl Try.underlying36 info2 rfl (by decide) (by omega) u15 x15_3 a0 [.int .i64 a0] (fun _ => True) (fun _ => False) rfl rfl ?aP (fun _ hk => hk.elim) ?aF ?aO ?aB ?aS ?aL ?_; (case aP => exact rfl); (case aB => exact (by repeat (first | (with_reducible first | exact HB.out | apply below_alloc | apply pw_below_drewN | apply below_drew1) | exact HB.out))); (case aF => exact (fun _ _ => trivial)); (case aO => exact (by (with_reducible repeat (first | apply Kd.R_alloc | apply Kd.R_drewN | apply Kd.R_drew)); exact HO_15.out)); (case aS => exact (below_size (by repeat (first | (with_reducible first | exact HB.out | apply below_alloc | apply pw_below_drewN | apply below_drew1) | exact HB.out)))); (case aL => have := LMc22.out; omega); intro v385 w23 ho hb hg hat; rw [← Ny384.out] at ho; have n0_ := Aside0.mk (hb); have n1_ := Aside0.mk (ho); clear HB; clear HO_15; have HB := n0_; have HO386 := n1_; clear n0_ n1_; clear ho hb hg hat))
                    go_roundg k3
                    case measure => have := HJ6.out; have := HJ14.out; have := HK3.out; omega
                    case rel => exact ⟨(y384), ((x63_3 + 1) % 256), (by first | rfl | (simp; done) | (simp [*]; done)), H', ⟨by have := HJ6.out; have := HJ14.out; have := HK3.out; omega⟩, ⟨by (with_reducible repeat (first | apply Kd.R_alloc | apply Kd.R_drewN | apply Kd.R_drew)); exact HO386.out⟩, ⟨by repeat (first | (with_reducible first | exact HB.out | apply below_alloc | apply pw_below_drewN | apply below_drew1) | exact HB.out)⟩⟩
                  · rw [if_neg c22] at H
                    exact absurd H (by simp)
                · rw [if_neg c21] at H
                  have c21b0 : decide (x63_3 < a2) = false := decide_eq_false c21
                  clear c21
                  replace H := Option.bind_eq_some_iff.mp H
                  obtain ⟨⟨t387, t388⟩, A240, H⟩ := H
                  replace H : ((money_Sum.f k3 x15_3).bind fun bt389 => (if t387 = bt389.1 then (some (t388 == bt389.2)) else (some false))) = some r := H
                  have A24 := Aside0.mk A240
                  clear A240
                  replace H := Option.bind_eq_some_iff.mp H
                  obtain ⟨⟨t389, t390⟩, A250, H⟩ := H
                  replace H : (if t387 = t389 then (some (t388 == t390)) else (some false)) = some r := H
                  have A25 := Aside0.mk A250
                  clear A250
                  have HC26 := Aside0.mk H
                  clear H
                  go_upto_region 20 with (first | ((with_reducible refine gate_callee (f := 33) rfl ?_); refine goesL_ (some 74) rfl rfl Try.func33 (by kernel_rfl) rfl #[.int .i64 a0, .int .i64 (wrap64 (a2))] rfl (by (try simp only [List.map_toArray, List.map_cons, List.map_nil]); first | done | rfl | (simp only [List.length_drop, List.length_take]; rfl)) ?_; (with_reducible refine (money_Mul.calls a0 (wrap64 (a2)) t387 t388 _ A24.out).mono ?_); rintro e w' ⟨rfl, ⟨nd, rfl⟩⟩; refine ⟨_, rfl, ?_⟩; obtain ⟨Ao27, co27, eo27⟩ := Kd.R_slice HO_15.out; subst eo27) | ((with_reducible refine gate_callee (f := 21) rfl ?_); refine goesL_ (some 79) rfl rfl Try.func21 (by kernel_rfl) rfl #[.slice Ao27 x15_3.length co27] rfl (by (try simp only [List.map_toArray, List.map_cons, List.map_nil]); first | done | rfl | (simp only [List.length_drop, List.length_take]; rfl)) ?_; (with_reducible refine (money_Sum.calls k3 _ _ x15_3 t389 t390 _ ?side1 ?side2 A25.out).mono ?_); (case side1 => repeat (first | exact (Kd.R_reads' HO_15.out).2.2 | (with_reducible refine Kd.C_alloc ?_ _) | (with_reducible refine Kd.C_drewN ?_ _) | (with_reducible refine Kd.C_drew ?_))); (case side2 => exact (Kd.R_reads' HO_15.out).2.1); rintro e w' ⟨rfl, ⟨nd, rfl⟩⟩; refine ⟨_, rfl, ?_⟩))
                  have H := HC26.out
                  clear HC26
                  by_cases c28 : t387 = t389
                  · rw [if_pos c28] at H
                    have c28b0 : (t387 == t389) = true := beq_iff_eq.mpr c28
                    have c28b1 : (t387 != t389) = false := bne_eq_false_iff_eq.mpr c28
                    clear c28
                    obtain rfl := Option.some.inj H
                    go_wp2
                    go_ret
                    exact ⟨by first | rfl | (simp [errW_none, errW_some] <;> rfl) | (simp [*, errW_none, errW_some] <;> rfl), by repeat (first | (with_reducible first | exact HB.out | apply below_alloc | apply pw_below_drewN | apply below_drew1) | exact HB.out)⟩
                  · rw [if_neg c28] at H
                    have c28b0 : (t387 == t389) = false := beq_eq_false_iff_ne.mpr c28
                    have c28b1 : (t387 != t389) = true := bne_iff_ne.mpr c28
                    obtain rfl := Option.some.inj H
                    go_wp2
                    go_ret
                    exact ⟨by first | rfl | (simp [errW_none, errW_some] <;> rfl) | (simp [*, errW_none, errW_some] <;> rfl), by repeat (first | (with_reducible first | exact HB.out | apply below_alloc | apply pw_below_drewN | apply below_drew1) | exact HB.out)⟩
  · replace c5 := Bool.eq_false_iff.mpr c5
    subst c5
    have H1 : (some false) = some r := by rw [if_neg (show ¬ (false = true) by decide)] at H; exact H
    clear H
    have H := H1
    clear H1
    obtain rfl := Option.some.inj H
    go_enter Try.func11, Try.ntmps11
    go_wp2_with (first | ((with_reducible refine gate_callee (f := 20) rfl ?_); refine goesL_ (some 20) rfl rfl Try.func20 (by kernel_rfl) rfl #[] rfl (by (try simp only [List.map_toArray, List.map_cons, List.map_nil]); first | done | rfl | (simp only [List.length_drop, List.length_take]; rfl)) ?_; (with_reducible refine (lombardlaw01_alive.calls k  false _ A4.out).mono ?_); rintro e w29 ⟨rfl, hb⟩; refine ⟨_, rfl, ?_⟩; have n0_ := Aside0.mk (below_step (by repeat (first | (with_reducible first | exact HB.out | apply below_alloc | apply pw_below_drewN | apply below_drew1) | exact HB.out)) hb); clear HB; have HB := n0_; clear n0_; (try clear hb); (try clear hb2); (try clear hk); (try clear hi)))
    go_ret
    exact ⟨by first | rfl | (simp [errW_none, errW_some] <;> rfl) | (simp [*, errW_none, errW_some] <;> rfl), by repeat (first | (with_reducible first | exact HB.out | apply below_alloc | apply pw_below_drewN | apply below_drew1) | exact HB.out)⟩

/-- THE ONE PURE STATEMENT of lombardlaw01_MoneyBack: yours. -/
def lombardlaw01_MoneyBack.Pure : Prop := ∀ (a0 : Int) (a1 : Int) (a2 : Int), (Lit.int .i64 a0).wf = true → (Lit.int .i64 a1).wf = true → (Lit.int .u8 a2).wf = true → ∃ k, lombardlaw01_MoneyBack.f k a0 a1 a2 = some true
theorem lombardlaw01_MoneyBack.walk (P : lombardlaw01_MoneyBack.Pure) (a0 : Int) (a1 : Int) (a2 : Int) (w : World) (w0 : (Lit.int .i64 a0).wf = true) (w1 : (Lit.int .i64 a1).wf = true) (w2 : (Lit.int .u8 a2).wf = true) :
    Calls Try.prog 11 #[.int .i64 a0, .int .i64 a1, .int .u8 a2] w fun e w' => e = .returned (.bool true) ∧ Below w.heap.size w w' := by
  obtain ⟨k, h⟩ := P a0 a1 a2 w0 w1 w2
  refine (lombardlaw01_MoneyBack.calls k a0 a1 a2 true w h).mono ?_
  rintro e w' ⟨rfl, hd⟩
  exact ⟨rfl, hd⟩

end Go.Proofs.Ytohbdjfabghagaa.S
