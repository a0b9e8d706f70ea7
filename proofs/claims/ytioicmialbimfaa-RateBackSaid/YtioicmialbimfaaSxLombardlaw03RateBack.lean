/- Printed by a program of this session out of the translation: what each function called here computes, and that its call comes to just that. Conditions: none beyond those that each theorem names. -/
import Derived.Test.YtioicmialbimfaaSx0
import Derived.Test.YtioicmialbimfaaSxRateInterest
import Derived.Test.YtioicmialbimfaaSxRateGrow
import Derived.Test.YtioicmialbimfaaSxRateDiscount
import Derived.Test.YtioicmialbimfaaSxLombardlaw03Alive
namespace Go.Proofs.Ytioicmialbimfaa.S
open Go.RowKit Go.Proofs.YtioicmialbimfaaW.PrintWords Go.Proofs.YtioicmialbimfaaW.PrintLast Go.Proofs.YtioicmialbimfaaW.PrintMore
attribute [local go_sem] max2_int min2_int max_two min_two max_three min_three max_four min_four   -- for this text's walks alone
attribute [local go_sem] Go.Proofs.Ytioicmialbimfaa.XWalk.cell2
set_option linter.unusedVariables false
set_option linter.unusedSimpArgs false

/-! ### lombardlaw03_RateBack: function 4 -/
mutual
def lombardlaw03_RateBack.l0 : Nat → Int → Int → Int → Option (Bool)
  | 0, _, _, _ => none
  | k + 1, x0, x1, x18 => if x18 < 2 then (if x18 = 0 then ((rate_Grow.f k x0 0).bind fun bt164 => (if bt164.1 = x0 then (if bt164.2 = 0 then (lombardlaw03_RateBack.l0 k x0 x1 (wrap64 (x18 + 1))) else (some false)) else (some false))) else (if x18 = 1 then ((rate_Discount.f k x0 0).bind fun bt166 => (if bt166.1 = x0 then (if bt166.2 = 0 then (lombardlaw03_RateBack.l0 k x0 x1 (wrap64 (x18 + 1))) else (some false)) else (some false))) else (none))) else ((rate_Interest.f k x0 0).bind fun bt168 => (if bt168.1 = 0 then (lombardlaw03_RateBack.j1 k x0 x1 (bt168.2 != 0)) else (lombardlaw03_RateBack.j1 k x0 x1 true)))
def lombardlaw03_RateBack.j1 : Nat → Int → Int → Bool → Option (Bool)
  | 0, _, _, _ => none
  | k + 1, x0, x1, x45 => if x45 = true then (some false) else (if x1 < 0 then (some true) else ((rate_Grow.f k x0 x1).bind fun bt170 => (if bt170.2 = 0 then ((rate_Discount.f k bt170.1 x1).bind fun bt172 => (if bt172.2 = 0 then (if bt172.1 = x0 then (some true) else (if bt172.1 = (wrap64 (x0 + 1)) then (some true) else (some (bt172.1 == (wrap64 (x0 - 1)))))) else (some false))) else (if bt170.2 = 2 then (if x1 > 10000000000000 then (some true) else (if bt170.2 = 3 then (if x0 > 576460752303423488 then (some true) else (some (decide (x0 < (-576460752303423488))))) else (some false))) else (if bt170.2 = 3 then (if x0 > 576460752303423488 then (some true) else (some (decide (x0 < (-576460752303423488))))) else (some false))))))
end
def lombardlaw03_RateBack.f (k : Nat) (a0 : Int) (a1 : Int) : Option (Bool) := (lombardlaw03_alive.f k).bind fun t163 => (if t163 = true then (lombardlaw03_RateBack.l0 k a0 a1 0) else (some false))
theorem lombardlaw03_RateBack.mono_l : ∀ k, (∀ y0 y1 y2, LeO (lombardlaw03_RateBack.l0 k y0 y1 y2) (lombardlaw03_RateBack.l0 (k + 1) y0 y1 y2)) ∧ (∀ y0 y1 y2, LeO (lombardlaw03_RateBack.j1 k y0 y1 y2) (lombardlaw03_RateBack.j1 (k + 1) y0 y1 y2))
  | 0 => ⟨fun _ _ _ r h => by simp [lombardlaw03_RateBack.l0] at h, fun _ _ _ r h => by simp [lombardlaw03_RateBack.j1] at h⟩
  | k + 1 => by
    obtain ⟨ih0, ih1⟩ := lombardlaw03_RateBack.mono_l k
    refine ⟨?_, ?_⟩
    · intro y0 y1 y2
      unfold lombardlaw03_RateBack.l0
      repeat' first
      | (with_reducible exact ih0 _ _ _)
      | (with_reducible exact ih1 _ _ _)
      | (with_reducible exact lombardlaw03_alive.mono _)
      | (with_reducible exact rate_Discount.mono _ _ _)
      | (with_reducible exact rate_Grow.mono _ _ _)
      | (with_reducible exact rate_Interest.mono _ _ _)
      | (with_reducible exact LeO.refl _)
      | (with_reducible exact LeO.none _)
      | (with_reducible refine LeO.ite ?_ ?_)
      | (with_reducible refine LeO.bind ?_ (fun _ => ?_))
      | exact ih0 _ _ _
      | exact ih1 _ _ _
      | exact lombardlaw03_alive.mono _
      | exact rate_Discount.mono _ _ _
      | exact rate_Grow.mono _ _ _
      | exact rate_Interest.mono _ _ _
      | exact LeO.none _
      | refine LeO.ite ?_ ?_
      | refine LeO.bind ?_ (fun _ => ?_)
    · intro y0 y1 y2
      unfold lombardlaw03_RateBack.j1
      repeat' first
      | (with_reducible exact ih0 _ _ _)
      | (with_reducible exact ih1 _ _ _)
      | (with_reducible exact lombardlaw03_alive.mono _)
      | (with_reducible exact rate_Discount.mono _ _ _)
      | (with_reducible exact rate_Grow.mono _ _ _)
      | (with_reducible exact rate_Interest.mono _ _ _)
      | (with_reducible exact LeO.refl _)
      | (with_reducible exact LeO.none _)
      | (with_reducible refine LeO.ite ?_ ?_)
      | (with_reducible refine LeO.bind ?_ (fun _ => ?_))
      | exact ih0 _ _ _
      | exact ih1 _ _ _
      | exact lombardlaw03_alive.mono _
      | exact rate_Discount.mono _ _ _
      | exact rate_Grow.mono _ _ _
      | exact rate_Interest.mono _ _ _
      | exact LeO.none _
      | refine LeO.ite ?_ ?_
      | refine LeO.bind ?_ (fun _ => ?_)
theorem lombardlaw03_RateBack.mono : ∀ a0 a1 k, LeO (lombardlaw03_RateBack.f k a0 a1) (lombardlaw03_RateBack.f (k + 1) a0 a1) := by
  intro a0 a1 k
  obtain ⟨ih0, ih1⟩ := lombardlaw03_RateBack.mono_l k
  unfold lombardlaw03_RateBack.f
  repeat' first
      | (with_reducible exact ih0 _ _ _)
      | (with_reducible exact ih1 _ _ _)
      | (with_reducible exact lombardlaw03_alive.mono _)
      | (with_reducible exact rate_Discount.mono _ _ _)
      | (with_reducible exact rate_Grow.mono _ _ _)
      | (with_reducible exact rate_Interest.mono _ _ _)
      | (with_reducible exact LeO.refl _)
      | (with_reducible exact LeO.none _)
      | (with_reducible refine LeO.ite ?_ ?_)
      | (with_reducible refine LeO.bind ?_ (fun _ => ?_))
      | exact ih0 _ _ _
      | exact ih1 _ _ _
      | exact lombardlaw03_alive.mono _
      | exact rate_Discount.mono _ _ _
      | exact rate_Grow.mono _ _ _
      | exact rate_Interest.mono _ _ _
      | exact LeO.none _
      | refine LeO.ite ?_ ?_
      | refine LeO.bind ?_ (fun _ => ?_)
set_option maxHeartbeats 8000000 in
set_option maxRecDepth 100000 in
theorem lombardlaw03_RateBack.calls (k : Nat) (a0 : Int) (a1 : Int) (r : Bool) (w : World) (h : lombardlaw03_RateBack.f k a0 a1 = some r) :
    Calls Try.prog 4 #[.int .i64 a0, .int .i64 a1] w fun e w' => e = .returned (.bool r) ∧ Below w.heap.size w w' := by
  have HB := Aside0.mk (Below.refl w.heap.size w)
  have H : ((lombardlaw03_alive.f k).bind fun t163 => (if t163 = true then (lombardlaw03_RateBack.l0 k a0 a1 0) else (some false))) = some r := h
  clear h
  replace H := Option.bind_eq_some_iff.mp H
  obtain ⟨t163, A30, H⟩ := H
  replace H : (if t163 = true then (lombardlaw03_RateBack.l0 k a0 a1 0) else (some false)) = some r := H
  have A3 := Aside0.mk A30
  clear A30
  by_cases c4 : t163 = true
  · subst c4
    have H1 : (lombardlaw03_RateBack.l0 k a0 a1 0) = some r := by rw [if_pos rfl] at H; exact H
    clear H
    have H := H1
    clear H1
    have H' := Aside0.mk H
    clear H
    go_enter Try.func4, Try.ntmps4
    go_wp2_with (first | ((with_reducible refine gate_callee (f := 14) rfl ?_); refine goesL_ (some 15) rfl rfl Try.func14 (by kernel_rfl) rfl #[] rfl (by (try simp only [List.map_toArray, List.map_cons, List.map_nil]); first | done | rfl | (simp only [List.length_drop, List.length_take]; rfl)) ?_; (with_reducible refine (lombardlaw03_alive.calls k  true _ A3.out).mono ?_); rintro e w5 ⟨rfl, hb⟩; refine ⟨_, rfl, ?_⟩; have n0_ := Aside0.mk (below_step (by repeat (first | (with_reducible first | exact HB.out | apply below_alloc | apply pw_below_drewN | apply below_drew1) | exact HB.out)) hb); clear HB; have HB := n0_; clear n0_; (try clear hb); (try clear hb2); (try clear hk); (try clear hi)))
    go_loopg [18] k (fun kq v18 w' => ∃ (x18_1 : Int), v18 = .int .i64 x18_1 ∧ Aside0 (lombardlaw03_RateBack.l0 kq a0 a1 x18_1 = some r) ∧ Aside0 (kq ≤ k) ∧ Aside0 (Below w.heap.size w w'))
    case atStart => exact ⟨(0), (by first | rfl | (simp; done) | (simp [*]; done)), H', ⟨Nat.le_refl _⟩, ⟨by repeat (first | (with_reducible first | exact HB.out | apply below_alloc | apply pw_below_drewN | apply below_drew1) | exact HB.out)⟩⟩
    case round =>
      clear H'
      try clear c1
      try clear p2
      try clear c4
      obtain ⟨x18_1, rfl, HA, HK1, HB⟩ := hrel
      cases gk with
      | zero => exact absurd HA.out (by simp [lombardlaw03_RateBack.l0])
      | succ k1 =>
        have H := HA.out
        clear HA
        simp only [lombardlaw03_RateBack.l0] at H
        by_cases c6 : x18_1 < 2
        · rw [if_pos c6] at H
          have c6b0 : decide (x18_1 < 2) = true := decide_eq_true c6
          clear c6
          by_cases c7 : x18_1 = 0
          · rw [if_pos c7] at H
            have c7b0 : (x18_1 == 0) = true := beq_iff_eq.mpr c7
            have c7b1 : (x18_1 != 0) = false := bne_eq_false_iff_eq.mpr c7
            clear c7
            replace H := Option.bind_eq_some_iff.mp H
            obtain ⟨⟨t164, t165⟩, A80, H⟩ := H
            replace H : (if t164 = a0 then (if t165 = 0 then (lombardlaw03_RateBack.l0 k1 a0 a1 (wrap64 (x18_1 + 1))) else (some false)) else (some false)) = some r := H
            have A8 := Aside0.mk A80
            clear A80
            have HC9 := Aside0.mk H
            clear H
            have hx10 : ∀ W, (Instr.index 28 (.agg #[.func (.func 17) #[] #[], .func (.func 19) #[] #[]]) (.int .i64 x18_1)).run Try.prog W = .ok (.func (.func 17) #[] #[]) W := fun W => by rw [show x18_1 = 0 from beq_iff_eq.mp (by first | (with_reducible assumption) | assumption)]; first | kernel_rfl | rfl
            go_upto_region 7 with (first | (go_at_call 17; (with_reducible refine (rate_Grow.calls k1 a0 0 t164 t165 _ A8.out).mono ?_); rintro e w11 ⟨rfl, hb⟩; have n0_ := Aside0.mk (below_step (by repeat (first | (with_reducible first | exact HB.out | apply below_alloc | apply pw_below_drewN | apply below_drew1) | exact HB.out)) hb); clear HB; have HB := n0_; clear n0_; (try clear hb); (try clear hb2); (try clear hk); (try clear hi)))
            have H := HC9.out
            clear HC9
            by_cases c12 : t164 = a0
            · rw [if_pos c12] at H
              have c12b0 : (t164 == a0) = true := beq_iff_eq.mpr c12
              have c12b1 : (t164 != a0) = false := bne_eq_false_iff_eq.mpr c12
              clear c12
              by_cases c13 : t165 = 0
              · rw [if_pos c13] at H
                have c13b0 : (t165 == 0) = true := beq_iff_eq.mpr c13
                have c13b1 : (t165 != 0) = false := bne_eq_false_iff_eq.mpr c13
                clear c13
                have H' := Aside0.mk H
                clear H
                go_wp2
                go_roundg k1
                case measure => have := HK1.out; omega
                case rel => exact ⟨(wrap64 (x18_1 + 1)), (by first | rfl | (simp; done) | (simp [*]; done)), H', ⟨by have := HK1.out; omega⟩, ⟨by repeat (first | (with_reducible first | exact HB.out | apply below_alloc | apply pw_below_drewN | apply below_drew1) | exact HB.out)⟩⟩
              · rw [if_neg c13] at H
                have c13b0 : (t165 == 0) = false := beq_eq_false_iff_ne.mpr c13
                have c13b1 : (t165 != 0) = true := bne_iff_ne.mpr c13
                obtain rfl := Option.some.inj H
                go_wp2
                go_ret
                exact ⟨by first | rfl | (simp [errW_none, errW_some] <;> rfl) | (simp [*, errW_none, errW_some] <;> rfl), by repeat (first | (with_reducible first | exact HB.out | apply below_alloc | apply pw_below_drewN | apply below_drew1) | exact HB.out)⟩
            · rw [if_neg c12] at H
              have c12b0 : (t164 == a0) = false := beq_eq_false_iff_ne.mpr c12
              have c12b1 : (t164 != a0) = true := bne_iff_ne.mpr c12
              obtain rfl := Option.some.inj H
              go_wp2
              go_ret
              exact ⟨by first | rfl | (simp [errW_none, errW_some] <;> rfl) | (simp [*, errW_none, errW_some] <;> rfl), by repeat (first | (with_reducible first | exact HB.out | apply below_alloc | apply pw_below_drewN | apply below_drew1) | exact HB.out)⟩
          · rw [if_neg c7] at H
            have c7b0 : (x18_1 == 0) = false := beq_eq_false_iff_ne.mpr c7
            have c7b1 : (x18_1 != 0) = true := bne_iff_ne.mpr c7
            by_cases c14 : x18_1 = 1
            · rw [if_pos c14] at H
              have c14b0 : (x18_1 == 1) = true := beq_iff_eq.mpr c14
              have c14b1 : (x18_1 != 1) = false := bne_eq_false_iff_eq.mpr c14
              clear c14
              replace H := Option.bind_eq_some_iff.mp H
              obtain ⟨⟨t166, t167⟩, A150, H⟩ := H
              replace H : (if t166 = a0 then (if t167 = 0 then (lombardlaw03_RateBack.l0 k1 a0 a1 (wrap64 (x18_1 + 1))) else (some false)) else (some false)) = some r := H
              have A15 := Aside0.mk A150
              clear A150
              have HC16 := Aside0.mk H
              clear H
              have hx17 : ∀ W, (Instr.index 28 (.agg #[.func (.func 17) #[] #[], .func (.func 19) #[] #[]]) (.int .i64 x18_1)).run Try.prog W = .ok (.func (.func 19) #[] #[]) W := fun W => by rw [show x18_1 = 1 from beq_iff_eq.mp (by first | (with_reducible assumption) | assumption)]; first | kernel_rfl | rfl
              go_upto_region 7 with (first | (go_at_call 19; (with_reducible refine (rate_Discount.calls k1 a0 0 t166 t167 _ A15.out).mono ?_); rintro e w18 ⟨rfl, hb⟩; have n0_ := Aside0.mk (below_step (by repeat (first | (with_reducible first | exact HB.out | apply below_alloc | apply pw_below_drewN | apply below_drew1) | exact HB.out)) hb); clear HB; have HB := n0_; clear n0_; (try clear hb); (try clear hb2); (try clear hk); (try clear hi)))
              have H := HC16.out
              clear HC16
              by_cases c19 : t166 = a0
              · rw [if_pos c19] at H
                have c19b0 : (t166 == a0) = true := beq_iff_eq.mpr c19
                have c19b1 : (t166 != a0) = false := bne_eq_false_iff_eq.mpr c19
                clear c19
                by_cases c20 : t167 = 0
                · rw [if_pos c20] at H
                  have c20b0 : (t167 == 0) = true := beq_iff_eq.mpr c20
                  have c20b1 : (t167 != 0) = false := bne_eq_false_iff_eq.mpr c20
                  clear c20
                  have H' := Aside0.mk H
                  clear H
                  go_wp2
                  go_roundg k1
                  case measure => have := HK1.out; omega
                  case rel => exact ⟨(wrap64 (x18_1 + 1)), (by first | rfl | (simp; done) | (simp [*]; done)), H', ⟨by have := HK1.out; omega⟩, ⟨by repeat (first | (with_reducible first | exact HB.out | apply below_alloc | apply pw_below_drewN | apply below_drew1) | exact HB.out)⟩⟩
                · rw [if_neg c20] at H
                  have c20b0 : (t167 == 0) = false := beq_eq_false_iff_ne.mpr c20
                  have c20b1 : (t167 != 0) = true := bne_iff_ne.mpr c20
                  obtain rfl := Option.some.inj H
                  go_wp2
                  go_ret
                  exact ⟨by first | rfl | (simp [errW_none, errW_some] <;> rfl) | (simp [*, errW_none, errW_some] <;> rfl), by repeat (first | (with_reducible first | exact HB.out | apply below_alloc | apply pw_below_drewN | apply below_drew1) | exact HB.out)⟩
              · rw [if_neg c19] at H
                have c19b0 : (t166 == a0) = false := beq_eq_false_iff_ne.mpr c19
                have c19b1 : (t166 != a0) = true := bne_iff_ne.mpr c19
                obtain rfl := Option.some.inj H
                go_wp2
                go_ret
                exact ⟨by first | rfl | (simp [errW_none, errW_some] <;> rfl) | (simp [*, errW_none, errW_some] <;> rfl), by repeat (first | (with_reducible first | exact HB.out | apply below_alloc | apply pw_below_drewN | apply below_drew1) | exact HB.out)⟩
            · rw [if_neg c14] at H
              exact absurd H (by simp)
        · rw [if_neg c6] at H
          have c6b0 : decide (x18_1 < 2) = false := decide_eq_false c6
          clear c6
          replace H := Option.bind_eq_some_iff.mp H
          obtain ⟨⟨t168, t169⟩, A210, H⟩ := H
          replace H : (if t168 = 0 then (lombardlaw03_RateBack.j1 k1 a0 a1 (t169 != 0)) else (lombardlaw03_RateBack.j1 k1 a0 a1 true)) = some r := H
          have A21 := Aside0.mk A210
          clear A210
          have HC22 := Aside0.mk H
          clear H
          go_upto_region 11 with (first | ((with_reducible refine gate_callee (f := 15) rfl ?_); refine goesL_ (some 37) rfl rfl Try.func15 (by kernel_rfl) rfl #[.int .i64 a0, .int .i64 0] rfl (by (try simp only [List.map_toArray, List.map_cons, List.map_nil]); first | done | rfl | (simp only [List.length_drop, List.length_take]; rfl)) ?_; (with_reducible refine (rate_Interest.calls k1 a0 0 t168 t169 _ A21.out).mono ?_); rintro e w23 ⟨rfl, hb⟩; refine ⟨_, rfl, ?_⟩; have n0_ := Aside0.mk (below_step (by repeat (first | (with_reducible first | exact HB.out | apply below_alloc | apply pw_below_drewN | apply below_drew1) | exact HB.out)) hb); clear HB; have HB := n0_; clear n0_; (try clear hb); (try clear hb2); (try clear hk); (try clear hi)))
          (try simp only [Act.put, List.setIfInBounds_toArray, List.set_cons_zero, List.set_cons_succ])
          go_cut [45] (fun v45 wc => ∃ (kq : Nat) (x45_21 : Bool), v45 = .bool x45_21 ∧ Aside0 (lombardlaw03_RateBack.j1 kq a0 a1 x45_21 = some r) ∧ Aside0 (kq ≤ k1) ∧ Aside0 (Below w.heap.size w wc))
          case first =>
            have H := HC22.out
            clear HC22
            by_cases c24 : t168 = 0
            · rw [if_pos c24] at H
              have c24b0 : (t168 == 0) = true := beq_iff_eq.mpr c24
              have c24b1 : (t168 != 0) = false := bne_eq_false_iff_eq.mpr c24
              clear c24
              (first | rw [c24b0] | (simp only [i64_w, i32_w]; rw [c24b0]) | skip)
              have H' := Aside0.mk H
              clear H
              go_wp2
              go_meet
              case rel => exact ⟨_, ((t169 != 0)), (by first | rfl | (simp; done) | (simp [*]; done)), H', ⟨by have := HK1.out; first | omega | exact Nat.le_refl _⟩, ⟨by repeat (first | (with_reducible first | exact HB.out | apply below_alloc | apply pw_below_drewN | apply below_drew1) | exact HB.out)⟩⟩
            · rw [if_neg c24] at H
              have c24b0 : (t168 == 0) = false := beq_eq_false_iff_ne.mpr c24
              have c24b1 : (t168 != 0) = true := bne_iff_ne.mpr c24
              (first | rw [c24b0] | (simp only [i64_w, i32_w]; rw [c24b0]) | skip)
              have H' := Aside0.mk H
              clear H
              go_wp2
              go_meet
              case rel => exact ⟨_, (true), (by first | rfl | (simp; done) | (simp [*]; done)), H', ⟨by have := HK1.out; first | omega | exact Nat.le_refl _⟩, ⟨by repeat (first | (with_reducible first | exact HB.out | apply below_alloc | apply pw_below_drewN | apply below_drew1) | exact HB.out)⟩⟩
          case rest =>
            clear HC22
            try clear c1
            try clear hx1
            try clear c2
            try clear p2
            try clear c4
            try clear c6
            try clear c6b0
            try clear p6
            try clear c7
            try clear c7b0
            try clear c7b1
            try clear hx10
            try clear c12
            try clear c12b0
            try clear c12b1
            try clear c13
            try clear c13b0
            try clear c13b1
            try clear c14
            try clear c14b0
            try clear c14b1
            try clear c15
            try clear hx17
            try clear c19
            try clear c19b0
            try clear c19b1
            try clear c20
            try clear c20b0
            try clear c20b1
            try clear c24
            try clear c24b0
            try clear c24b1
            try clear p2
            obtain ⟨kq, x45_21, rfl, HA, HJ21, HB⟩ := hcut
            cases kq with
            | zero => exact absurd HA.out (by simp [lombardlaw03_RateBack.j1])
            | succ kj21 =>
              have H := HA.out
              clear HA
              simp only [lombardlaw03_RateBack.j1] at H
              by_cases c25 : x45_21 = true
              · subst c25
                have H1 : (some false) = some r := by rw [if_pos rfl] at H; exact H
                clear H
                have H := H1
                clear H1
                obtain rfl := Option.some.inj H
                go_wp2
                go_ret
                exact ⟨by first | rfl | (simp [errW_none, errW_some] <;> rfl) | (simp [*, errW_none, errW_some] <;> rfl), by repeat (first | (with_reducible first | exact HB.out | apply below_alloc | apply pw_below_drewN | apply below_drew1) | exact HB.out)⟩
              · replace c25 := Bool.eq_false_iff.mpr c25
                subst c25
                have H1 : (if a1 < 0 then (some true) else ((rate_Grow.f kj21 a0 a1).bind fun bt170 => (if bt170.2 = 0 then ((rate_Discount.f kj21 bt170.1 a1).bind fun bt172 => (if bt172.2 = 0 then (if bt172.1 = a0 then (some true) else (if bt172.1 = (wrap64 (a0 + 1)) then (some true) else (some (bt172.1 == (wrap64 (a0 - 1)))))) else (some false))) else (if bt170.2 = 2 then (if a1 > 10000000000000 then (some true) else (if bt170.2 = 3 then (if a0 > 576460752303423488 then (some true) else (some (decide (a0 < (-576460752303423488))))) else (some false))) else (if bt170.2 = 3 then (if a0 > 576460752303423488 then (some true) else (some (decide (a0 < (-576460752303423488))))) else (some false)))))) = some r := by rw [if_neg (show ¬ (false = true) by decide)] at H; exact H
                clear H
                have H := H1
                clear H1
                by_cases c26 : a1 < 0
                · rw [if_pos c26] at H
                  have c26b0 : decide (a1 < 0) = true := decide_eq_true c26
                  clear c26
                  obtain rfl := Option.some.inj H
                  go_wp2
                  go_ret
                  exact ⟨by first | rfl | (simp [errW_none, errW_some] <;> rfl) | (simp [*, errW_none, errW_some] <;> rfl), by repeat (first | (with_reducible first | exact HB.out | apply below_alloc | apply pw_below_drewN | apply below_drew1) | exact HB.out)⟩
                · rw [if_neg c26] at H
                  have c26b0 : decide (a1 < 0) = false := decide_eq_false c26
                  clear c26
                  replace H := Option.bind_eq_some_iff.mp H
                  obtain ⟨⟨t170, t171⟩, A270, H⟩ := H
                  replace H : (if t171 = 0 then ((rate_Discount.f kj21 t170 a1).bind fun bt172 => (if bt172.2 = 0 then (if bt172.1 = a0 then (some true) else (if bt172.1 = (wrap64 (a0 + 1)) then (some true) else (some (bt172.1 == (wrap64 (a0 - 1)))))) else (some false))) else (if t171 = 2 then (if a1 > 10000000000000 then (some true) else (if t171 = 3 then (if a0 > 576460752303423488 then (some true) else (some (decide (a0 < (-576460752303423488))))) else (some false))) else (if t171 = 3 then (if a0 > 576460752303423488 then (some true) else (some (decide (a0 < (-576460752303423488))))) else (some false)))) = some r := H
                  have A27 := Aside0.mk A270
                  clear A270
                  by_cases c28 : t171 = 0
                  · rw [if_pos c28] at H
                    have c28b0 : (t171 == 0) = true := beq_iff_eq.mpr c28
                    have c28b1 : (t171 != 0) = false := bne_eq_false_iff_eq.mpr c28
                    clear c28
                    replace H := Option.bind_eq_some_iff.mp H
                    obtain ⟨⟨t172, t173⟩, A290, H⟩ := H
                    replace H : (if t173 = 0 then (if t172 = a0 then (some true) else (if t172 = (wrap64 (a0 + 1)) then (some true) else (some (t172 == (wrap64 (a0 - 1)))))) else (some false)) = some r := H
                    have A29 := Aside0.mk A290
                    clear A290
                    have HC30 := Aside0.mk H
                    clear H
                    go_upto_region 19 with (first | ((with_reducible refine gate_callee (f := 17) rfl ?_); refine goesL_ (some 51) rfl rfl Try.func17 (by kernel_rfl) rfl #[.int .i64 a0, .int .i64 a1] rfl (by (try simp only [List.map_toArray, List.map_cons, List.map_nil]); first | done | rfl | (simp only [List.length_drop, List.length_take]; rfl)) ?_; (with_reducible refine (rate_Grow.calls kj21 a0 a1 t170 t171 _ A27.out).mono ?_); rintro e w31 ⟨rfl, hb⟩; refine ⟨_, rfl, ?_⟩; have n0_ := Aside0.mk (below_step (by repeat (first | (with_reducible first | exact HB.out | apply below_alloc | apply pw_below_drewN | apply below_drew1) | exact HB.out)) hb); clear HB; have HB := n0_; clear n0_; (try clear hb); (try clear hb2); (try clear hk); (try clear hi)) | ((with_reducible refine gate_callee (f := 19) rfl ?_); refine goesL_ (some 77) rfl rfl Try.func19 (by kernel_rfl) rfl #[.int .i64 t170, .int .i64 a1] rfl (by (try simp only [List.map_toArray, List.map_cons, List.map_nil]); first | done | rfl | (simp only [List.length_drop, List.length_take]; rfl)) ?_; (with_reducible refine (rate_Discount.calls kj21 t170 a1 t172 t173 _ A29.out).mono ?_); rintro e w32 ⟨rfl, hb⟩; refine ⟨_, rfl, ?_⟩; have n0_ := Aside0.mk (below_step (by repeat (first | (with_reducible first | exact HB.out | apply below_alloc | apply pw_below_drewN | apply below_drew1) | exact HB.out)) hb); clear HB; have HB := n0_; clear n0_; (try clear hb); (try clear hb2); (try clear hk); (try clear hi)))
                    have H := HC30.out
                    clear HC30
                    by_cases c33 : t173 = 0
                    · rw [if_pos c33] at H
                      have c33b0 : (t173 == 0) = true := beq_iff_eq.mpr c33
                      have c33b1 : (t173 != 0) = false := bne_eq_false_iff_eq.mpr c33
                      clear c33
                      by_cases c34 : t172 = a0
                      · rw [if_pos c34] at H
                        have c34b0 : (t172 == a0) = true := beq_iff_eq.mpr c34
                        have c34b1 : (t172 != a0) = false := bne_eq_false_iff_eq.mpr c34
                        clear c34
                        obtain rfl := Option.some.inj H
                        go_wp2
                        go_ret
                        exact ⟨by first | rfl | (simp [errW_none, errW_some] <;> rfl) | (simp [*, errW_none, errW_some] <;> rfl), by repeat (first | (with_reducible first | exact HB.out | apply below_alloc | apply pw_below_drewN | apply below_drew1) | exact HB.out)⟩
                      · rw [if_neg c34] at H
                        have c34b0 : (t172 == a0) = false := beq_eq_false_iff_ne.mpr c34
                        have c34b1 : (t172 != a0) = true := bne_iff_ne.mpr c34
                        by_cases c35 : t172 = (wrap64 (a0 + 1))
                        · rw [if_pos c35] at H
                          have c35b0 : (t172 == (wrap64 (a0 + 1))) = true := beq_iff_eq.mpr c35
                          have c35b1 : (t172 != (wrap64 (a0 + 1))) = false := bne_eq_false_iff_eq.mpr c35
                          clear c35
                          obtain rfl := Option.some.inj H
                          go_wp2
                          go_ret
                          exact ⟨by first | rfl | (simp [errW_none, errW_some] <;> rfl) | (simp [*, errW_none, errW_some] <;> rfl), by repeat (first | (with_reducible first | exact HB.out | apply below_alloc | apply pw_below_drewN | apply below_drew1) | exact HB.out)⟩
                        · rw [if_neg c35] at H
                          have c35b0 : (t172 == (wrap64 (a0 + 1))) = false := beq_eq_false_iff_ne.mpr c35
                          have c35b1 : (t172 != (wrap64 (a0 + 1))) = true := bne_iff_ne.mpr c35
                          obtain rfl := Option.some.inj H
                          go_wp2
                          go_ret
                          exact ⟨by first | rfl | (simp [errW_none, errW_some] <;> rfl) | (simp [*, errW_none, errW_some] <;> rfl), by repeat (first | (with_reducible first | exact HB.out | apply below_alloc | apply pw_below_drewN | apply below_drew1) | exact HB.out)⟩
                    · rw [if_neg c33] at H
                      have c33b0 : (t173 == 0) = false := beq_eq_false_iff_ne.mpr c33
                      have c33b1 : (t173 != 0) = true := bne_iff_ne.mpr c33
                      obtain rfl := Option.some.inj H
                      go_wp2
                      go_ret
                      exact ⟨by first | rfl | (simp [errW_none, errW_some] <;> rfl) | (simp [*, errW_none, errW_some] <;> rfl), by repeat (first | (with_reducible first | exact HB.out | apply below_alloc | apply pw_below_drewN | apply below_drew1) | exact HB.out)⟩
                  · rw [if_neg c28] at H
                    have c28b0 : (t171 == 0) = false := beq_eq_false_iff_ne.mpr c28
                    have c28b1 : (t171 != 0) = true := bne_iff_ne.mpr c28
                    have HC36 := Aside0.mk H
                    clear H
                    go_upto_region 17 with (first | ((with_reducible refine gate_callee (f := 17) rfl ?_); refine goesL_ (some 51) rfl rfl Try.func17 (by kernel_rfl) rfl #[.int .i64 a0, .int .i64 a1] rfl (by (try simp only [List.map_toArray, List.map_cons, List.map_nil]); first | done | rfl | (simp only [List.length_drop, List.length_take]; rfl)) ?_; (with_reducible refine (rate_Grow.calls kj21 a0 a1 t170 t171 _ A27.out).mono ?_); rintro e w37 ⟨rfl, hb⟩; refine ⟨_, rfl, ?_⟩; have n0_ := Aside0.mk (below_step (by repeat (first | (with_reducible first | exact HB.out | apply below_alloc | apply pw_below_drewN | apply below_drew1) | exact HB.out)) hb); clear HB; have HB := n0_; clear n0_; (try clear hb); (try clear hb2); (try clear hk); (try clear hi)))
                    have H := HC36.out
                    clear HC36
                    by_cases c38 : t171 = 2
                    · rw [if_pos c38] at H
                      have c38b0 : (t171 == 2) = true := beq_iff_eq.mpr c38
                      have c38b1 : (t171 != 2) = false := bne_eq_false_iff_eq.mpr c38
                      clear c38
                      by_cases c39 : a1 > 10000000000000
                      · rw [if_pos c39] at H
                        have c39b0 : decide (10000000000000 < a1) = true := decide_eq_true c39
                        clear c39
                        obtain rfl := Option.some.inj H
                        go_wp2
                        go_ret
                        exact ⟨by first | rfl | (simp [errW_none, errW_some] <;> rfl) | (simp [*, errW_none, errW_some] <;> rfl), by repeat (first | (with_reducible first | exact HB.out | apply below_alloc | apply pw_below_drewN | apply below_drew1) | exact HB.out)⟩
                      · rw [if_neg c39] at H
                        have c39b0 : decide (10000000000000 < a1) = false := decide_eq_false c39
                        clear c39
                        by_cases c40 : t171 = 3
                        · rw [if_pos c40] at H
                          have c40b0 : (t171 == 3) = true := beq_iff_eq.mpr c40
                          have c40b1 : (t171 != 3) = false := bne_eq_false_iff_eq.mpr c40
                          clear c40
                          by_cases c41 : a0 > 576460752303423488
                          · rw [if_pos c41] at H
                            have c41b0 : decide (576460752303423488 < a0) = true := decide_eq_true c41
                            clear c41
                            obtain rfl := Option.some.inj H
                            go_wp2
                            go_ret
                            exact ⟨by first | rfl | (simp [errW_none, errW_some] <;> rfl) | (simp [*, errW_none, errW_some] <;> rfl), by repeat (first | (with_reducible first | exact HB.out | apply below_alloc | apply pw_below_drewN | apply below_drew1) | exact HB.out)⟩
                          · rw [if_neg c41] at H
                            have c41b0 : decide (576460752303423488 < a0) = false := decide_eq_false c41
                            clear c41
                            obtain rfl := Option.some.inj H
                            go_wp2
                            go_ret
                            exact ⟨by first | rfl | (simp [errW_none, errW_some] <;> rfl) | (simp [*, errW_none, errW_some] <;> rfl), by repeat (first | (with_reducible first | exact HB.out | apply below_alloc | apply pw_below_drewN | apply below_drew1) | exact HB.out)⟩
                        · rw [if_neg c40] at H
                          have c40b0 : (t171 == 3) = false := beq_eq_false_iff_ne.mpr c40
                          have c40b1 : (t171 != 3) = true := bne_iff_ne.mpr c40
                          obtain rfl := Option.some.inj H
                          go_wp2
                          go_ret
                          exact ⟨by first | rfl | (simp [errW_none, errW_some] <;> rfl) | (simp [*, errW_none, errW_some] <;> rfl), by repeat (first | (with_reducible first | exact HB.out | apply below_alloc | apply pw_below_drewN | apply below_drew1) | exact HB.out)⟩
                    · rw [if_neg c38] at H
                      have c38b0 : (t171 == 2) = false := beq_eq_false_iff_ne.mpr c38
                      have c38b1 : (t171 != 2) = true := bne_iff_ne.mpr c38
                      by_cases c42 : t171 = 3
                      · rw [if_pos c42] at H
                        have c42b0 : (t171 == 3) = true := beq_iff_eq.mpr c42
                        have c42b1 : (t171 != 3) = false := bne_eq_false_iff_eq.mpr c42
                        clear c42
                        by_cases c43 : a0 > 576460752303423488
                        · rw [if_pos c43] at H
                          have c43b0 : decide (576460752303423488 < a0) = true := decide_eq_true c43
                          clear c43
                          obtain rfl := Option.some.inj H
                          go_wp2
                          go_ret
                          exact ⟨by first | rfl | (simp [errW_none, errW_some] <;> rfl) | (simp [*, errW_none, errW_some] <;> rfl), by repeat (first | (with_reducible first | exact HB.out | apply below_alloc | apply pw_below_drewN | apply below_drew1) | exact HB.out)⟩
                        · rw [if_neg c43] at H
                          have c43b0 : decide (576460752303423488 < a0) = false := decide_eq_false c43
                          clear c43
                          obtain rfl := Option.some.inj H
                          go_wp2
                          go_ret
                          exact ⟨by first | rfl | (simp [errW_none, errW_some] <;> rfl) | (simp [*, errW_none, errW_some] <;> rfl), by repeat (first | (with_reducible first | exact HB.out | apply below_alloc | apply pw_below_drewN | apply below_drew1) | exact HB.out)⟩
                      · rw [if_neg c42] at H
                        have c42b0 : (t171 == 3) = false := beq_eq_false_iff_ne.mpr c42
                        have c42b1 : (t171 != 3) = true := bne_iff_ne.mpr c42
                        obtain rfl := Option.some.inj H
                        go_wp2
                        go_ret
                        exact ⟨by first | rfl | (simp [errW_none, errW_some] <;> rfl) | (simp [*, errW_none, errW_some] <;> rfl), by repeat (first | (with_reducible first | exact HB.out | apply below_alloc | apply pw_below_drewN | apply below_drew1) | exact HB.out)⟩
  · replace c4 := Bool.eq_false_iff.mpr c4
    subst c4
    have H1 : (some false) = some r := by rw [if_neg (show ¬ (false = true) by decide)] at H; exact H
    clear H
    have H := H1
    clear H1
    obtain rfl := Option.some.inj H
    go_enter Try.func4, Try.ntmps4
    go_wp2_with (first | ((with_reducible refine gate_callee (f := 14) rfl ?_); refine goesL_ (some 15) rfl rfl Try.func14 (by kernel_rfl) rfl #[] rfl (by (try simp only [List.map_toArray, List.map_cons, List.map_nil]); first | done | rfl | (simp only [List.length_drop, List.length_take]; rfl)) ?_; (with_reducible refine (lombardlaw03_alive.calls k  false _ A3.out).mono ?_); rintro e w44 ⟨rfl, hb⟩; refine ⟨_, rfl, ?_⟩; have n0_ := Aside0.mk (below_step (by repeat (first | (with_reducible first | exact HB.out | apply below_alloc | apply pw_below_drewN | apply below_drew1) | exact HB.out)) hb); clear HB; have HB := n0_; clear n0_; (try clear hb); (try clear hb2); (try clear hk); (try clear hi)))
    go_ret
    exact ⟨by first | rfl | (simp [errW_none, errW_some] <;> rfl) | (simp [*, errW_none, errW_some] <;> rfl), by repeat (first | (with_reducible first | exact HB.out | apply below_alloc | apply pw_below_drewN | apply below_drew1) | exact HB.out)⟩

/-- THE ONE PURE STATEMENT of lombardlaw03_RateBack: yours. -/
def lombardlaw03_RateBack.Pure : Prop := ∀ (a0 : Int) (a1 : Int), (Lit.int .i64 a0).wf = true → (Lit.int .i64 a1).wf = true → ∃ k, lombardlaw03_RateBack.f k a0 a1 = some true
theorem lombardlaw03_RateBack.walk (P : lombardlaw03_RateBack.Pure) (a0 : Int) (a1 : Int) (w : World) (w0 : (Lit.int .i64 a0).wf = true) (w1 : (Lit.int .i64 a1).wf = true) :
    Calls Try.prog 4 #[.int .i64 a0, .int .i64 a1] w fun e w' => e = .returned (.bool true) ∧ Below w.heap.size w w' := by
  obtain ⟨k, h⟩ := P a0 a1 w0 w1
  refine (lombardlaw03_RateBack.calls k a0 a1 true w h).mono ?_
  rintro e w' ⟨rfl, hd⟩
  exact ⟨rfl, hd⟩

end Go.Proofs.Ytioicmialbimfaa.S
