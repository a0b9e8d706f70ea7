/- Printed by a program of this session out of the translation: what each function called here computes, and that its call comes to just that. Conditions: none beyond those that each theorem names. -/
import Derived.Test.YtohbdjfabghagaaSx0
import Derived.Test.YtohbdjfabghagaaSxWideMulDiv
namespace Go.Proofs.Ytohbdjfabghagaa.S
open Go.RowKit Go.Proofs.YtohbdjfabghagaaW.PrintWords Go.Proofs.YtohbdjfabghagaaW.PrintLast Go.Proofs.YtohbdjfabghagaaW.PrintMore
attribute [local go_sem] max2_int min2_int max_two min_two max_three min_three max_four min_four   -- for this text's walks alone
attribute [local go_sem] Go.Proofs.Ytohbdjfabghagaa.XWalk.cell2
set_option linter.unusedVariables false
set_option linter.unusedSimpArgs false

/-! ### lombardlaw02_alive: function 15 -/
def lombardlaw02_alive.f (k : Nat)  : Option (Bool) := (wide_MulDiv.f k 7 1 2 1).bind fun bt124 => ((wide_MulDiv.f k 5 1 2 1).bind fun bt126 => ((wide_MulDiv.f k (-5) 1 2 1).bind fun bt128 => ((wide_MulDiv.f k (-5) 1 2 0).bind fun bt130 => ((wide_MulDiv.f k 1 1 0 0).bind fun bt132 => (if bt124.1 = 4 then (if bt126.1 = 2 then (if bt128.1 = (-2) then (if bt130.1 = (-3) then (if bt130.2 = 0 then (some (bt132.2 == 4)) else (some false)) else (some false)) else (some false)) else (some false)) else (some false))))))
theorem lombardlaw02_alive.mono : ∀ k, LeO (lombardlaw02_alive.f k ) (lombardlaw02_alive.f (k + 1) ) := by
  intro  k
  unfold lombardlaw02_alive.f
  repeat' first
      | (with_reducible exact wide_MulDiv.mono _ _ _ _ _)
      | (with_reducible exact LeO.refl _)
      | (with_reducible exact LeO.none _)
      | (with_reducible refine LeO.ite ?_ ?_)
      | (with_reducible refine LeO.bind ?_ (fun _ => ?_))
      | exact wide_MulDiv.mono _ _ _ _ _
      | exact LeO.none _
      | refine LeO.ite ?_ ?_
      | refine LeO.bind ?_ (fun _ => ?_)
set_option maxHeartbeats 8000000 in
set_option maxRecDepth 100000 in
theorem lombardlaw02_alive.calls (k : Nat)  (r : Bool) (w : World) (h : lombardlaw02_alive.f k  = some r) :
    Calls Try.prog 15 #[] w fun e w' => e = .returned (.bool r) ∧ Below w.heap.size w w' := by
  have HB := Aside0.mk (Below.refl w.heap.size w)
  have H : ((wide_MulDiv.f k 7 1 2 1).bind fun bt124 => ((wide_MulDiv.f k 5 1 2 1).bind fun bt126 => ((wide_MulDiv.f k (-5) 1 2 1).bind fun bt128 => ((wide_MulDiv.f k (-5) 1 2 0).bind fun bt130 => ((wide_MulDiv.f k 1 1 0 0).bind fun bt132 => (if bt124.1 = 4 then (if bt126.1 = 2 then (if bt128.1 = (-2) then (if bt130.1 = (-3) then (if bt130.2 = 0 then (some (bt132.2 == 4)) else (some false)) else (some false)) else (some false)) else (some false)) else (some false))))))) = some r := h
  clear h
  replace H := Option.bind_eq_some_iff.mp H
  obtain ⟨⟨t124, t125⟩, A10, H⟩ := H
  replace H : ((wide_MulDiv.f k 5 1 2 1).bind fun bt126 => ((wide_MulDiv.f k (-5) 1 2 1).bind fun bt128 => ((wide_MulDiv.f k (-5) 1 2 0).bind fun bt130 => ((wide_MulDiv.f k 1 1 0 0).bind fun bt132 => (if t124 = 4 then (if bt126.1 = 2 then (if bt128.1 = (-2) then (if bt130.1 = (-3) then (if bt130.2 = 0 then (some (bt132.2 == 4)) else (some false)) else (some false)) else (some false)) else (some false)) else (some false)))))) = some r := H
  have A1 := Aside0.mk A10
  clear A10
  replace H := Option.bind_eq_some_iff.mp H
  obtain ⟨⟨t126, t127⟩, A20, H⟩ := H
  replace H : ((wide_MulDiv.f k (-5) 1 2 1).bind fun bt128 => ((wide_MulDiv.f k (-5) 1 2 0).bind fun bt130 => ((wide_MulDiv.f k 1 1 0 0).bind fun bt132 => (if t124 = 4 then (if t126 = 2 then (if bt128.1 = (-2) then (if bt130.1 = (-3) then (if bt130.2 = 0 then (some (bt132.2 == 4)) else (some false)) else (some false)) else (some false)) else (some false)) else (some false))))) = some r := H
  have A2 := Aside0.mk A20
  clear A20
  replace H := Option.bind_eq_some_iff.mp H
  obtain ⟨⟨t128, t129⟩, A30, H⟩ := H
  replace H : ((wide_MulDiv.f k (-5) 1 2 0).bind fun bt130 => ((wide_MulDiv.f k 1 1 0 0).bind fun bt132 => (if t124 = 4 then (if t126 = 2 then (if t128 = (-2) then (if bt130.1 = (-3) then (if bt130.2 = 0 then (some (bt132.2 == 4)) else (some false)) else (some false)) else (some false)) else (some false)) else (some false)))) = some r := H
  have A3 := Aside0.mk A30
  clear A30
  replace H := Option.bind_eq_some_iff.mp H
  obtain ⟨⟨t130, t131⟩, A40, H⟩ := H
  replace H : ((wide_MulDiv.f k 1 1 0 0).bind fun bt132 => (if t124 = 4 then (if t126 = 2 then (if t128 = (-2) then (if t130 = (-3) then (if t131 = 0 then (some (bt132.2 == 4)) else (some false)) else (some false)) else (some false)) else (some false)) else (some false))) = some r := H
  have A4 := Aside0.mk A40
  clear A40
  replace H := Option.bind_eq_some_iff.mp H
  obtain ⟨⟨t132, t133⟩, A50, H⟩ := H
  replace H : (if t124 = 4 then (if t126 = 2 then (if t128 = (-2) then (if t130 = (-3) then (if t131 = 0 then (some (t133 == 4)) else (some false)) else (some false)) else (some false)) else (some false)) else (some false)) = some r := H
  have A5 := Aside0.mk A50
  clear A50
  have HC6 := Aside0.mk H
  clear H
  go_enter Try.func15, Try.ntmps15
  go_upto_region 6 with (first | ((with_reducible refine gate_callee (f := 18) rfl ?_); refine goesL_ (some 12) rfl rfl Try.func18 (by kernel_rfl) rfl #[.int .i64 7, .int .i64 1, .int .i64 2, .int .i64 1] rfl (by (try simp only [List.map_toArray, List.map_cons, List.map_nil]); first | done | rfl | (simp only [List.length_drop, List.length_take]; rfl)) ?_; (with_reducible refine (wide_MulDiv.calls k 7 1 2 1 t124 t125 _ A1.out).mono ?_); rintro e w7 ⟨rfl, hb⟩; refine ⟨_, rfl, ?_⟩; have n0_ := Aside0.mk (below_step (by repeat (first | (with_reducible first | exact HB.out | apply below_alloc | apply pw_below_drewN | apply below_drew1) | exact HB.out)) hb); clear HB; have HB := n0_; clear n0_; (try clear hb); (try clear hb2); (try clear hk); (try clear hi)) | ((with_reducible refine gate_callee (f := 18) rfl ?_); refine goesL_ (some 16) rfl rfl Try.func18 (by kernel_rfl) rfl #[.int .i64 5, .int .i64 1, .int .i64 2, .int .i64 1] rfl (by (try simp only [List.map_toArray, List.map_cons, List.map_nil]); first | done | rfl | (simp only [List.length_drop, List.length_take]; rfl)) ?_; (with_reducible refine (wide_MulDiv.calls k 5 1 2 1 t126 t127 _ A2.out).mono ?_); rintro e w8 ⟨rfl, hb⟩; refine ⟨_, rfl, ?_⟩; have n0_ := Aside0.mk (below_step (by repeat (first | (with_reducible first | exact HB.out | apply below_alloc | apply pw_below_drewN | apply below_drew1) | exact HB.out)) hb); clear HB; have HB := n0_; clear n0_; (try clear hb); (try clear hb2); (try clear hk); (try clear hi)) | ((with_reducible refine gate_callee (f := 18) rfl ?_); refine goesL_ (some 20) rfl rfl Try.func18 (by kernel_rfl) rfl #[.int .i64 (-5), .int .i64 1, .int .i64 2, .int .i64 1] rfl (by (try simp only [List.map_toArray, List.map_cons, List.map_nil]); first | done | rfl | (simp only [List.length_drop, List.length_take]; rfl)) ?_; (with_reducible refine (wide_MulDiv.calls k (-5) 1 2 1 t128 t129 _ A3.out).mono ?_); rintro e w9 ⟨rfl, hb⟩; refine ⟨_, rfl, ?_⟩; have n0_ := Aside0.mk (below_step (by repeat (first | (with_reducible first | exact HB.out | apply below_alloc | apply pw_below_drewN | apply below_drew1) | exact HB.out)) hb); clear HB; have HB := n0_; clear n0_; (try clear hb); (try clear hb2); (try clear hk); (try clear hi)) | ((with_reducible refine gate_callee (f := 18) rfl ?_); refine goesL_ (some 24) rfl rfl Try.func18 (by kernel_rfl) rfl #[.int .i64 (-5), .int .i64 1, .int .i64 2, .int .i64 0] rfl (by (try simp only [List.map_toArray, List.map_cons, List.map_nil]); first | done | rfl | (simp only [List.length_drop, List.length_take]; rfl)) ?_; (with_reducible refine (wide_MulDiv.calls k (-5) 1 2 0 t130 t131 _ A4.out).mono ?_); rintro e w10 ⟨rfl, hb⟩; refine ⟨_, rfl, ?_⟩; have n0_ := Aside0.mk (below_step (by repeat (first | (with_reducible first | exact HB.out | apply below_alloc | apply pw_below_drewN | apply below_drew1) | exact HB.out)) hb); clear HB; have HB := n0_; clear n0_; (try clear hb); (try clear hb2); (try clear hk); (try clear hi)) | ((with_reducible refine gate_callee (f := 18) rfl ?_); refine goesL_ (some 28) rfl rfl Try.func18 (by kernel_rfl) rfl #[.int .i64 1, .int .i64 1, .int .i64 0, .int .i64 0] rfl (by (try simp only [List.map_toArray, List.map_cons, List.map_nil]); first | done | rfl | (simp only [List.length_drop, List.length_take]; rfl)) ?_; (with_reducible refine (wide_MulDiv.calls k 1 1 0 0 t132 t133 _ A5.out).mono ?_); rintro e w11 ⟨rfl, hb⟩; refine ⟨_, rfl, ?_⟩; have n0_ := Aside0.mk (below_step (by repeat (first | (with_reducible first | exact HB.out | apply below_alloc | apply pw_below_drewN | apply below_drew1) | exact HB.out)) hb); clear HB; have HB := n0_; clear n0_; (try clear hb); (try clear hb2); (try clear hk); (try clear hi)))
  have H := HC6.out
  clear HC6
  by_cases c12 : t124 = 4
  · rw [if_pos c12] at H
    have c12b0 : (t124 == 4) = true := beq_iff_eq.mpr c12
    have c12b1 : (t124 != 4) = false := bne_eq_false_iff_eq.mpr c12
    clear c12
    by_cases c13 : t126 = 2
    · rw [if_pos c13] at H
      have c13b0 : (t126 == 2) = true := beq_iff_eq.mpr c13
      have c13b1 : (t126 != 2) = false := bne_eq_false_iff_eq.mpr c13
      clear c13
      by_cases c14 : t128 = (-2)
      · rw [if_pos c14] at H
        have c14b0 : (t128 == (-2)) = true := beq_iff_eq.mpr c14
        have c14b1 : (t128 != (-2)) = false := bne_eq_false_iff_eq.mpr c14
        clear c14
        by_cases c15 : t130 = (-3)
        · rw [if_pos c15] at H
          have c15b0 : (t130 == (-3)) = true := beq_iff_eq.mpr c15
          have c15b1 : (t130 != (-3)) = false := bne_eq_false_iff_eq.mpr c15
          clear c15
          by_cases c16 : t131 = 0
          · rw [if_pos c16] at H
            have c16b0 : (t131 == 0) = true := beq_iff_eq.mpr c16
            have c16b1 : (t131 != 0) = false := bne_eq_false_iff_eq.mpr c16
            clear c16
            obtain rfl := Option.some.inj H
            go_wp2
            go_ret
            exact ⟨by first | rfl | (simp [errW_none, errW_some] <;> rfl) | (simp [*, errW_none, errW_some] <;> rfl), by repeat (first | (with_reducible first | exact HB.out | apply below_alloc | apply pw_below_drewN | apply below_drew1) | exact HB.out)⟩
          · rw [if_neg c16] at H
            have c16b0 : (t131 == 0) = false := beq_eq_false_iff_ne.mpr c16
            have c16b1 : (t131 != 0) = true := bne_iff_ne.mpr c16
            obtain rfl := Option.some.inj H
            go_wp2
            go_ret
            exact ⟨by first | rfl | (simp [errW_none, errW_some] <;> rfl) | (simp [*, errW_none, errW_some] <;> rfl), by repeat (first | (with_reducible first | exact HB.out | apply below_alloc | apply pw_below_drewN | apply below_drew1) | exact HB.out)⟩
        · rw [if_neg c15] at H
          have c15b0 : (t130 == (-3)) = false := beq_eq_false_iff_ne.mpr c15
          have c15b1 : (t130 != (-3)) = true := bne_iff_ne.mpr c15
          obtain rfl := Option.some.inj H
          go_wp2
          go_ret
          exact ⟨by first | rfl | (simp [errW_none, errW_some] <;> rfl) | (simp [*, errW_none, errW_some] <;> rfl), by repeat (first | (with_reducible first | exact HB.out | apply below_alloc | apply pw_below_drewN | apply below_drew1) | exact HB.out)⟩
      · rw [if_neg c14] at H
        have c14b0 : (t128 == (-2)) = false := beq_eq_false_iff_ne.mpr c14
        have c14b1 : (t128 != (-2)) = true := bne_iff_ne.mpr c14
        obtain rfl := Option.some.inj H
        go_wp2
        go_ret
        exact ⟨by first | rfl | (simp [errW_none, errW_some] <;> rfl) | (simp [*, errW_none, errW_some] <;> rfl), by repeat (first | (with_reducible first | exact HB.out | apply below_alloc | apply pw_below_drewN | apply below_drew1) | exact HB.out)⟩
    · rw [if_neg c13] at H
      have c13b0 : (t126 == 2) = false := beq_eq_false_iff_ne.mpr c13
      have c13b1 : (t126 != 2) = true := bne_iff_ne.mpr c13
      obtain rfl := Option.some.inj H
      go_wp2
      go_ret
      exact ⟨by first | rfl | (simp [errW_none, errW_some] <;> rfl) | (simp [*, errW_none, errW_some] <;> rfl), by repeat (first | (with_reducible first | exact HB.out | apply below_alloc | apply pw_below_drewN | apply below_drew1) | exact HB.out)⟩
  · rw [if_neg c12] at H
    have c12b0 : (t124 == 4) = false := beq_eq_false_iff_ne.mpr c12
    have c12b1 : (t124 != 4) = true := bne_iff_ne.mpr c12
    obtain rfl := Option.some.inj H
    go_wp2
    go_ret
    exact ⟨by first | rfl | (simp [errW_none, errW_some] <;> rfl) | (simp [*, errW_none, errW_some] <;> rfl), by repeat (first | (with_reducible first | exact HB.out | apply below_alloc | apply pw_below_drewN | apply below_drew1) | exact HB.out)⟩

end Go.Proofs.Ytohbdjfabghagaa.S
