/- Printed by a program of this session out of the translation: what each function called here computes, and that its call comes to just that. Conditions: none beyond those that each theorem names. -/
import Derived.Test.YtioicmialbimfaaSx0
import Derived.Test.YtioicmialbimfaaSxRateInterest
import Derived.Test.YtioicmialbimfaaSxRateGrow
import Derived.Test.YtioicmialbimfaaSxRateDiscount
import Derived.Test.YtioicmialbimfaaSxRatePower
namespace Go.Proofs.Ytioicmialbimfaa.S
open Go.RowKit Go.Proofs.YtioicmialbimfaaW.PrintWords Go.Proofs.YtioicmialbimfaaW.PrintLast Go.Proofs.YtioicmialbimfaaW.PrintMore
attribute [local go_sem] max2_int min2_int max_two min_two max_three min_three max_four min_four   -- for this text's walks alone
attribute [local go_sem] Go.Proofs.Ytioicmialbimfaa.XWalk.cell2
set_option linter.unusedVariables false
set_option linter.unusedSimpArgs false

/-! ### lombardlaw03_alive: function 14 -/
def lombardlaw03_alive.f (k : Nat)  : Option (Bool) := (rate_Interest.f k 1000 50000000000).bind fun bt148 => ((rate_Discount.f k 1050 50000000000).bind fun bt150 => ((rate_Power.f k 100000000000 2).bind fun bt152 => ((rate_Grow.f k 1 10000000000001).bind fun bt154 => (if bt148.1 = 50 then (if bt148.2 = 0 then (if bt150.1 = 1000 then (if bt150.2 = 0 then (if bt152.1 = 1210000000000 then (if bt152.2 = 0 then (some (bt154.2 == 2)) else (some false)) else (some false)) else (some false)) else (some false)) else (some false)) else (some false)))))
theorem lombardlaw03_alive.mono : ∀ k, LeO (lombardlaw03_alive.f k ) (lombardlaw03_alive.f (k + 1) ) := by
  intro  k
  unfold lombardlaw03_alive.f
  repeat' first
      | (with_reducible exact rate_Discount.mono _ _ _)
      | (with_reducible exact rate_Grow.mono _ _ _)
      | (with_reducible exact rate_Interest.mono _ _ _)
      | (with_reducible exact rate_Power.mono _ _ _)
      | (with_reducible exact LeO.refl _)
      | (with_reducible exact LeO.none _)
      | (with_reducible refine LeO.ite ?_ ?_)
      | (with_reducible refine LeO.bind ?_ (fun _ => ?_))
      | exact rate_Discount.mono _ _ _
      | exact rate_Grow.mono _ _ _
      | exact rate_Interest.mono _ _ _
      | exact rate_Power.mono _ _ _
      | exact LeO.none _
      | refine LeO.ite ?_ ?_
      | refine LeO.bind ?_ (fun _ => ?_)
set_option maxHeartbeats 8000000 in
set_option maxRecDepth 100000 in
theorem lombardlaw03_alive.calls (k : Nat)  (r : Bool) (w : World) (h : lombardlaw03_alive.f k  = some r) :
    Calls Try.prog 14 #[] w fun e w' => e = .returned (.bool r) ∧ Below w.heap.size w w' := by
  have HB := Aside0.mk (Below.refl w.heap.size w)
  have H : ((rate_Interest.f k 1000 50000000000).bind fun bt148 => ((rate_Discount.f k 1050 50000000000).bind fun bt150 => ((rate_Power.f k 100000000000 2).bind fun bt152 => ((rate_Grow.f k 1 10000000000001).bind fun bt154 => (if bt148.1 = 50 then (if bt148.2 = 0 then (if bt150.1 = 1000 then (if bt150.2 = 0 then (if bt152.1 = 1210000000000 then (if bt152.2 = 0 then (some (bt154.2 == 2)) else (some false)) else (some false)) else (some false)) else (some false)) else (some false)) else (some false)))))) = some r := h
  clear h
  replace H := Option.bind_eq_some_iff.mp H
  obtain ⟨⟨t148, t149⟩, A10, H⟩ := H
  replace H : ((rate_Discount.f k 1050 50000000000).bind fun bt150 => ((rate_Power.f k 100000000000 2).bind fun bt152 => ((rate_Grow.f k 1 10000000000001).bind fun bt154 => (if t148 = 50 then (if t149 = 0 then (if bt150.1 = 1000 then (if bt150.2 = 0 then (if bt152.1 = 1210000000000 then (if bt152.2 = 0 then (some (bt154.2 == 2)) else (some false)) else (some false)) else (some false)) else (some false)) else (some false)) else (some false))))) = some r := H
  have A1 := Aside0.mk A10
  clear A10
  replace H := Option.bind_eq_some_iff.mp H
  obtain ⟨⟨t150, t151⟩, A20, H⟩ := H
  replace H : ((rate_Power.f k 100000000000 2).bind fun bt152 => ((rate_Grow.f k 1 10000000000001).bind fun bt154 => (if t148 = 50 then (if t149 = 0 then (if t150 = 1000 then (if t151 = 0 then (if bt152.1 = 1210000000000 then (if bt152.2 = 0 then (some (bt154.2 == 2)) else (some false)) else (some false)) else (some false)) else (some false)) else (some false)) else (some false)))) = some r := H
  have A2 := Aside0.mk A20
  clear A20
  replace H := Option.bind_eq_some_iff.mp H
  obtain ⟨⟨t152, t153⟩, A30, H⟩ := H
  replace H : ((rate_Grow.f k 1 10000000000001).bind fun bt154 => (if t148 = 50 then (if t149 = 0 then (if t150 = 1000 then (if t151 = 0 then (if t152 = 1210000000000 then (if t153 = 0 then (some (bt154.2 == 2)) else (some false)) else (some false)) else (some false)) else (some false)) else (some false)) else (some false))) = some r := H
  have A3 := Aside0.mk A30
  clear A30
  replace H := Option.bind_eq_some_iff.mp H
  obtain ⟨⟨t154, t155⟩, A40, H⟩ := H
  replace H : (if t148 = 50 then (if t149 = 0 then (if t150 = 1000 then (if t151 = 0 then (if t152 = 1210000000000 then (if t153 = 0 then (some (t155 == 2)) else (some false)) else (some false)) else (some false)) else (some false)) else (some false)) else (some false)) = some r := H
  have A4 := Aside0.mk A40
  clear A40
  have HC5 := Aside0.mk H
  clear H
  go_enter Try.func14, Try.ntmps14
  go_upto_region 5 with (first | ((with_reducible refine gate_callee (f := 15) rfl ?_); refine goesL_ (some 10) rfl rfl Try.func15 (by kernel_rfl) rfl #[.int .i64 1000, .int .i64 50000000000] rfl (by (try simp only [List.map_toArray, List.map_cons, List.map_nil]); first | done | rfl | (simp only [List.length_drop, List.length_take]; rfl)) ?_; (with_reducible refine (rate_Interest.calls k 1000 50000000000 t148 t149 _ A1.out).mono ?_); rintro e w6 ⟨rfl, hb⟩; refine ⟨_, rfl, ?_⟩; have n0_ := Aside0.mk (below_step (by repeat (first | (with_reducible first | exact HB.out | apply below_alloc | apply pw_below_drewN | apply below_drew1) | exact HB.out)) hb); clear HB; have HB := n0_; clear n0_; (try clear hb); (try clear hb2); (try clear hk); (try clear hi)) | ((with_reducible refine gate_callee (f := 19) rfl ?_); refine goesL_ (some 14) rfl rfl Try.func19 (by kernel_rfl) rfl #[.int .i64 1050, .int .i64 50000000000] rfl (by (try simp only [List.map_toArray, List.map_cons, List.map_nil]); first | done | rfl | (simp only [List.length_drop, List.length_take]; rfl)) ?_; (with_reducible refine (rate_Discount.calls k 1050 50000000000 t150 t151 _ A2.out).mono ?_); rintro e w7 ⟨rfl, hb⟩; refine ⟨_, rfl, ?_⟩; have n0_ := Aside0.mk (below_step (by repeat (first | (with_reducible first | exact HB.out | apply below_alloc | apply pw_below_drewN | apply below_drew1) | exact HB.out)) hb); clear HB; have HB := n0_; clear n0_; (try clear hb); (try clear hb2); (try clear hk); (try clear hi)) | ((with_reducible refine gate_callee (f := 24) rfl ?_); refine goesL_ (some 18) rfl rfl Try.func24 (by kernel_rfl) rfl #[.int .i64 100000000000, .int .i64 2] rfl (by (try simp only [List.map_toArray, List.map_cons, List.map_nil]); first | done | rfl | (simp only [List.length_drop, List.length_take]; rfl)) ?_; (with_reducible refine (rate_Power.calls k 100000000000 2 t152 t153 _ A3.out).mono ?_); rintro e w8 ⟨rfl, hb⟩; refine ⟨_, rfl, ?_⟩; have n0_ := Aside0.mk (below_step (by repeat (first | (with_reducible first | exact HB.out | apply below_alloc | apply pw_below_drewN | apply below_drew1) | exact HB.out)) hb); clear HB; have HB := n0_; clear n0_; (try clear hb); (try clear hb2); (try clear hk); (try clear hi)) | ((with_reducible refine gate_callee (f := 17) rfl ?_); refine goesL_ (some 22) rfl rfl Try.func17 (by kernel_rfl) rfl #[.int .i64 1, .int .i64 10000000000001] rfl (by (try simp only [List.map_toArray, List.map_cons, List.map_nil]); first | done | rfl | (simp only [List.length_drop, List.length_take]; rfl)) ?_; (with_reducible refine (rate_Grow.calls k 1 10000000000001 t154 t155 _ A4.out).mono ?_); rintro e w9 ⟨rfl, hb⟩; refine ⟨_, rfl, ?_⟩; have n0_ := Aside0.mk (below_step (by repeat (first | (with_reducible first | exact HB.out | apply below_alloc | apply pw_below_drewN | apply below_drew1) | exact HB.out)) hb); clear HB; have HB := n0_; clear n0_; (try clear hb); (try clear hb2); (try clear hk); (try clear hi)))
  have H := HC5.out
  clear HC5
  by_cases c10 : t148 = 50
  · rw [if_pos c10] at H
    have c10b0 : (t148 == 50) = true := beq_iff_eq.mpr c10
    have c10b1 : (t148 != 50) = false := bne_eq_false_iff_eq.mpr c10
    clear c10
    by_cases c11 : t149 = 0
    · rw [if_pos c11] at H
      have c11b0 : (t149 == 0) = true := beq_iff_eq.mpr c11
      have c11b1 : (t149 != 0) = false := bne_eq_false_iff_eq.mpr c11
      clear c11
      by_cases c12 : t150 = 1000
      · rw [if_pos c12] at H
        have c12b0 : (t150 == 1000) = true := beq_iff_eq.mpr c12
        have c12b1 : (t150 != 1000) = false := bne_eq_false_iff_eq.mpr c12
        clear c12
        by_cases c13 : t151 = 0
        · rw [if_pos c13] at H
          have c13b0 : (t151 == 0) = true := beq_iff_eq.mpr c13
          have c13b1 : (t151 != 0) = false := bne_eq_false_iff_eq.mpr c13
          clear c13
          by_cases c14 : t152 = 1210000000000
          · rw [if_pos c14] at H
            have c14b0 : (t152 == 1210000000000) = true := beq_iff_eq.mpr c14
            have c14b1 : (t152 != 1210000000000) = false := bne_eq_false_iff_eq.mpr c14
            clear c14
            by_cases c15 : t153 = 0
            · rw [if_pos c15] at H
              have c15b0 : (t153 == 0) = true := beq_iff_eq.mpr c15
              have c15b1 : (t153 != 0) = false := bne_eq_false_iff_eq.mpr c15
              clear c15
              obtain rfl := Option.some.inj H
              go_wp2
              go_ret
              exact ⟨by first | rfl | (simp [errW_none, errW_some] <;> rfl) | (simp [*, errW_none, errW_some] <;> rfl), by repeat (first | (with_reducible first | exact HB.out | apply below_alloc | apply pw_below_drewN | apply below_drew1) | exact HB.out)⟩
            · rw [if_neg c15] at H
              have c15b0 : (t153 == 0) = false := beq_eq_false_iff_ne.mpr c15
              have c15b1 : (t153 != 0) = true := bne_iff_ne.mpr c15
              obtain rfl := Option.some.inj H
              go_wp2
              go_ret
              exact ⟨by first | rfl | (simp [errW_none, errW_some] <;> rfl) | (simp [*, errW_none, errW_some] <;> rfl), by repeat (first | (with_reducible first | exact HB.out | apply below_alloc | apply pw_below_drewN | apply below_drew1) | exact HB.out)⟩
          · rw [if_neg c14] at H
            have c14b0 : (t152 == 1210000000000) = false := beq_eq_false_iff_ne.mpr c14
            have c14b1 : (t152 != 1210000000000) = true := bne_iff_ne.mpr c14
            obtain rfl := Option.some.inj H
            go_wp2
            go_ret
            exact ⟨by first | rfl | (simp [errW_none, errW_some] <;> rfl) | (simp [*, errW_none, errW_some] <;> rfl), by repeat (first | (with_reducible first | exact HB.out | apply below_alloc | apply pw_below_drewN | apply below_drew1) | exact HB.out)⟩
        · rw [if_neg c13] at H
          have c13b0 : (t151 == 0) = false := beq_eq_false_iff_ne.mpr c13
          have c13b1 : (t151 != 0) = true := bne_iff_ne.mpr c13
          obtain rfl := Option.some.inj H
          go_wp2
          go_ret
          exact ⟨by first | rfl | (simp [errW_none, errW_some] <;> rfl) | (simp [*, errW_none, errW_some] <;> rfl), by repeat (first | (with_reducible first | exact HB.out | apply below_alloc | apply pw_below_drewN | apply below_drew1) | exact HB.out)⟩
      · rw [if_neg c12] at H
        have c12b0 : (t150 == 1000) = false := beq_eq_false_iff_ne.mpr c12
        have c12b1 : (t150 != 1000) = true := bne_iff_ne.mpr c12
        obtain rfl := Option.some.inj H
        go_wp2
        go_ret
        exact ⟨by first | rfl | (simp [errW_none, errW_some] <;> rfl) | (simp [*, errW_none, errW_some] <;> rfl), by repeat (first | (with_reducible first | exact HB.out | apply below_alloc | apply pw_below_drewN | apply below_drew1) | exact HB.out)⟩
    · rw [if_neg c11] at H
      have c11b0 : (t149 == 0) = false := beq_eq_false_iff_ne.mpr c11
      have c11b1 : (t149 != 0) = true := bne_iff_ne.mpr c11
      obtain rfl := Option.some.inj H
      go_wp2
      go_ret
      exact ⟨by first | rfl | (simp [errW_none, errW_some] <;> rfl) | (simp [*, errW_none, errW_some] <;> rfl), by repeat (first | (with_reducible first | exact HB.out | apply below_alloc | apply pw_below_drewN | apply below_drew1) | exact HB.out)⟩
  · rw [if_neg c10] at H
    have c10b0 : (t148 == 50) = false := beq_eq_false_iff_ne.mpr c10
    have c10b1 : (t148 != 50) = true := bne_iff_ne.mpr c10
    obtain rfl := Option.some.inj H
    go_wp2
    go_ret
    exact ⟨by first | rfl | (simp [errW_none, errW_some] <;> rfl) | (simp [*, errW_none, errW_some] <;> rfl), by repeat (first | (with_reducible first | exact HB.out | apply below_alloc | apply pw_below_drewN | apply below_drew1) | exact HB.out)⟩

end Go.Proofs.Ytioicmialbimfaa.S
