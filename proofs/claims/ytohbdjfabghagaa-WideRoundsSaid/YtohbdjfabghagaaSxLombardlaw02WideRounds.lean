/- Printed by a program of this session out of the translation: what each function called here computes, and that its call comes to just that. Conditions: none beyond those that each theorem names. -/
import Derived.Test.YtohbdjfabghagaaSx0
import Derived.Test.YtohbdjfabghagaaSxWideMul
import Derived.Test.YtohbdjfabghagaaSxWideMulDiv
import Derived.Test.YtohbdjfabghagaaSxLombardlaw02Alive
import Derived.Test.YtohbdjfabghagaaSxWideCompare
namespace Go.Proofs.Ytohbdjfabghagaa.S
open Go.RowKit Go.Proofs.YtohbdjfabghagaaW.PrintWords Go.Proofs.YtohbdjfabghagaaW.PrintLast Go.Proofs.YtohbdjfabghagaaW.PrintMore
attribute [local go_sem] max2_int min2_int max_two min_two max_three min_three max_four min_four   -- for this text's walks alone
attribute [local go_sem] Go.Proofs.Ytohbdjfabghagaa.XWalk.cell2
set_option linter.unusedVariables false
set_option linter.unusedSimpArgs false

/-! ### lombardlaw02_WideRounds: function 12 -/
mutual
def lombardlaw02_WideRounds.j0 : Nat → Int → Int → Int → Int → Int → Int → Int → Bool → Option (Bool)
  | 0, _, _, _, _, _, _, _, _ => none
  | k + 1, x0, x1, x2, x7, x8, x9, x10, x42 => if x42 = true then (if x8 = 0 then (if x10 = 0 then (some true) else (some (x10 == 3))) else (if x8 = 3 then (if x10 = 0 then (some true) else (some (x10 == 3))) else (some false))) else (if x7 = x9 then (lombardlaw02_WideRounds.j1 k x0 x1 x2 x9 false) else (lombardlaw02_WideRounds.j1 k x0 x1 x2 x9 (x7 != (wrap64 (x9 + 1)))))
def lombardlaw02_WideRounds.j1 : Nat → Int → Int → Int → Int → Bool → Option (Bool)
  | 0, _, _, _, _, _ => none
  | k + 1, x0, x1, x2, x9, x65 => if x65 = true then (some false) else ((wide_Mul.f x9 x2).bind fun bt409 => ((wide_Mul.f x0 x1).bind fun bt411 => ((wide_Compare.f k bt409.1 bt409.2 bt411.1 bt411.2).bind fun t413 => (if x9 < 9223372036854775807 then ((wide_Mul.f (wrap64 (x9 + 1)) x2).bind fun bt414 => ((wide_Mul.f x0 x1).bind fun bt416 => ((wide_Compare.f k bt414.1 bt414.2 bt416.1 bt416.2).bind fun t418 => (if x2 > 0 then (if t413 ≤ 0 then (some (decide (t418 > 0))) else (some false)) else (if t413 ≥ 0 then (some (decide (t418 < 0))) else (some false)))))) else (if x2 < 0 then (if x2 > 0 then (if t413 ≤ 0 then (some (decide ((-1) > 0))) else (some false)) else (if t413 ≥ 0 then (some (decide ((-1) < 0))) else (some false))) else (if x2 > 0 then (if t413 ≤ 0 then (some (decide (1 > 0))) else (some false)) else (if t413 ≥ 0 then (some (decide (1 < 0))) else (some false))))))))
end
def lombardlaw02_WideRounds.f (k : Nat) (a0 : Int) (a1 : Int) (a2 : Int) : Option (Bool) := (lombardlaw02_alive.f k).bind fun t404 => (if t404 = true then ((wide_MulDiv.f k a0 a1 a2 1).bind fun bt405 => ((wide_MulDiv.f k a0 a1 a2 0).bind fun bt407 => (if a2 = 0 then (if bt405.2 = 4 then (some (bt407.2 == 4)) else (some false)) else (if bt405.2 = 0 then (lombardlaw02_WideRounds.j0 k a0 a1 a2 bt405.1 bt405.2 bt407.1 bt407.2 (bt407.2 != 0)) else (lombardlaw02_WideRounds.j0 k a0 a1 a2 bt405.1 bt405.2 bt407.1 bt407.2 true))))) else (some false))
theorem lombardlaw02_WideRounds.mono_l : ∀ k, (∀ y0 y1 y2 y3 y4 y5 y6 y7, LeO (lombardlaw02_WideRounds.j0 k y0 y1 y2 y3 y4 y5 y6 y7) (lombardlaw02_WideRounds.j0 (k + 1) y0 y1 y2 y3 y4 y5 y6 y7)) ∧ (∀ y0 y1 y2 y3 y4, LeO (lombardlaw02_WideRounds.j1 k y0 y1 y2 y3 y4) (lombardlaw02_WideRounds.j1 (k + 1) y0 y1 y2 y3 y4))
  | 0 => ⟨fun _ _ _ _ _ _ _ _ r h => by simp [lombardlaw02_WideRounds.j0] at h, fun _ _ _ _ _ r h => by simp [lombardlaw02_WideRounds.j1] at h⟩
  | k + 1 => by
    obtain ⟨ih0, ih1⟩ := lombardlaw02_WideRounds.mono_l k
    refine ⟨?_, ?_⟩
    · intro y0 y1 y2 y3 y4 y5 y6 y7
      unfold lombardlaw02_WideRounds.j0
      repeat' first
      | (with_reducible exact ih0 _ _ _ _ _ _ _ _)
      | (with_reducible exact ih1 _ _ _ _ _)
      | (with_reducible exact lombardlaw02_alive.mono _)
      | (with_reducible exact wide_Compare.mono _ _ _ _ _)
      | (with_reducible exact wide_MulDiv.mono _ _ _ _ _)
      | (with_reducible exact LeO.refl _)
      | (with_reducible exact LeO.none _)
      | (with_reducible refine LeO.ite ?_ ?_)
      | (with_reducible refine LeO.bind ?_ (fun _ => ?_))
      | exact ih0 _ _ _ _ _ _ _ _
      | exact ih1 _ _ _ _ _
      | exact lombardlaw02_alive.mono _
      | exact wide_Compare.mono _ _ _ _ _
      | exact wide_MulDiv.mono _ _ _ _ _
      | exact LeO.none _
      | refine LeO.ite ?_ ?_
      | refine LeO.bind ?_ (fun _ => ?_)
    · intro y0 y1 y2 y3 y4
      unfold lombardlaw02_WideRounds.j1
      repeat' first
      | (with_reducible exact ih0 _ _ _ _ _ _ _ _)
      | (with_reducible exact ih1 _ _ _ _ _)
      | (with_reducible exact lombardlaw02_alive.mono _)
      | (with_reducible exact wide_Compare.mono _ _ _ _ _)
      | (with_reducible exact wide_MulDiv.mono _ _ _ _ _)
      | (with_reducible exact LeO.refl _)
      | (with_reducible exact LeO.none _)
      | (with_reducible refine LeO.ite ?_ ?_)
      | (with_reducible refine LeO.bind ?_ (fun _ => ?_))
      | exact ih0 _ _ _ _ _ _ _ _
      | exact ih1 _ _ _ _ _
      | exact lombardlaw02_alive.mono _
      | exact wide_Compare.mono _ _ _ _ _
      | exact wide_MulDiv.mono _ _ _ _ _
      | exact LeO.none _
      | refine LeO.ite ?_ ?_
      | refine LeO.bind ?_ (fun _ => ?_)
theorem lombardlaw02_WideRounds.mono : ∀ a0 a1 a2 k, LeO (lombardlaw02_WideRounds.f k a0 a1 a2) (lombardlaw02_WideRounds.f (k + 1) a0 a1 a2) := by
  intro a0 a1 a2 k
  obtain ⟨ih0, ih1⟩ := lombardlaw02_WideRounds.mono_l k
  unfold lombardlaw02_WideRounds.f
  repeat' first
      | (with_reducible exact ih0 _ _ _ _ _ _ _ _)
      | (with_reducible exact ih1 _ _ _ _ _)
      | (with_reducible exact lombardlaw02_alive.mono _)
      | (with_reducible exact wide_Compare.mono _ _ _ _ _)
      | (with_reducible exact wide_MulDiv.mono _ _ _ _ _)
      | (with_reducible exact LeO.refl _)
      | (with_reducible exact LeO.none _)
      | (with_reducible refine LeO.ite ?_ ?_)
      | (with_reducible refine LeO.bind ?_ (fun _ => ?_))
      | exact ih0 _ _ _ _ _ _ _ _
      | exact ih1 _ _ _ _ _
      | exact lombardlaw02_alive.mono _
      | exact wide_Compare.mono _ _ _ _ _
      | exact wide_MulDiv.mono _ _ _ _ _
      | exact LeO.none _
      | refine LeO.ite ?_ ?_
      | refine LeO.bind ?_ (fun _ => ?_)
set_option maxHeartbeats 8000000 in
set_option maxRecDepth 100000 in
theorem lombardlaw02_WideRounds.calls (k : Nat) (a0 : Int) (a1 : Int) (a2 : Int) (r : Bool) (w : World) (h : lombardlaw02_WideRounds.f k a0 a1 a2 = some r) :
    Calls Try.prog 12 #[.int .i64 a0, .int .i64 a1, .int .i64 a2] w fun e w' => e = .returned (.bool r) ∧ Below w.heap.size w w' := by
  have HB := Aside0.mk (Below.refl w.heap.size w)
  have H : ((lombardlaw02_alive.f k).bind fun t404 => (if t404 = true then ((wide_MulDiv.f k a0 a1 a2 1).bind fun bt405 => ((wide_MulDiv.f k a0 a1 a2 0).bind fun bt407 => (if a2 = 0 then (if bt405.2 = 4 then (some (bt407.2 == 4)) else (some false)) else (if bt405.2 = 0 then (lombardlaw02_WideRounds.j0 k a0 a1 a2 bt405.1 bt405.2 bt407.1 bt407.2 (bt407.2 != 0)) else (lombardlaw02_WideRounds.j0 k a0 a1 a2 bt405.1 bt405.2 bt407.1 bt407.2 true))))) else (some false))) = some r := h
  clear h
  replace H := Option.bind_eq_some_iff.mp H
  obtain ⟨t404, A40, H⟩ := H
  replace H : (if t404 = true then ((wide_MulDiv.f k a0 a1 a2 1).bind fun bt405 => ((wide_MulDiv.f k a0 a1 a2 0).bind fun bt407 => (if a2 = 0 then (if bt405.2 = 4 then (some (bt407.2 == 4)) else (some false)) else (if bt405.2 = 0 then (lombardlaw02_WideRounds.j0 k a0 a1 a2 bt405.1 bt405.2 bt407.1 bt407.2 (bt407.2 != 0)) else (lombardlaw02_WideRounds.j0 k a0 a1 a2 bt405.1 bt405.2 bt407.1 bt407.2 true))))) else (some false)) = some r := H
  have A4 := Aside0.mk A40
  clear A40
  by_cases c5 : t404 = true
  · subst c5
    have H1 : ((wide_MulDiv.f k a0 a1 a2 1).bind fun bt405 => ((wide_MulDiv.f k a0 a1 a2 0).bind fun bt407 => (if a2 = 0 then (if bt405.2 = 4 then (some (bt407.2 == 4)) else (some false)) else (if bt405.2 = 0 then (lombardlaw02_WideRounds.j0 k a0 a1 a2 bt405.1 bt405.2 bt407.1 bt407.2 (bt407.2 != 0)) else (lombardlaw02_WideRounds.j0 k a0 a1 a2 bt405.1 bt405.2 bt407.1 bt407.2 true))))) = some r := by rw [if_pos rfl] at H; exact H
    clear H
    have H := H1
    clear H1
    replace H := Option.bind_eq_some_iff.mp H
    obtain ⟨⟨t405, t406⟩, A60, H⟩ := H
    replace H : ((wide_MulDiv.f k a0 a1 a2 0).bind fun bt407 => (if a2 = 0 then (if t406 = 4 then (some (bt407.2 == 4)) else (some false)) else (if t406 = 0 then (lombardlaw02_WideRounds.j0 k a0 a1 a2 t405 t406 bt407.1 bt407.2 (bt407.2 != 0)) else (lombardlaw02_WideRounds.j0 k a0 a1 a2 t405 t406 bt407.1 bt407.2 true)))) = some r := H
    have A6 := Aside0.mk A60
    clear A60
    replace H := Option.bind_eq_some_iff.mp H
    obtain ⟨⟨t407, t408⟩, A70, H⟩ := H
    replace H : (if a2 = 0 then (if t406 = 4 then (some (t408 == 4)) else (some false)) else (if t406 = 0 then (lombardlaw02_WideRounds.j0 k a0 a1 a2 t405 t406 t407 t408 (t408 != 0)) else (lombardlaw02_WideRounds.j0 k a0 a1 a2 t405 t406 t407 t408 true))) = some r := H
    have A7 := Aside0.mk A70
    clear A70
    by_cases c8 : a2 = 0
    · rw [if_pos c8] at H
      have c8b0 : (a2 == 0) = true := beq_iff_eq.mpr c8
      have c8b1 : (a2 != 0) = false := bne_eq_false_iff_eq.mpr c8
      clear c8
      have HC9 := Aside0.mk H
      clear H
      go_enter Try.func12, Try.ntmps12
      go_upto_region 6 with (first | ((with_reducible refine gate_callee (f := 15) rfl ?_); refine goesL_ (some 13) rfl rfl Try.func15 (by kernel_rfl) rfl #[] rfl (by (try simp only [List.map_toArray, List.map_cons, List.map_nil]); first | done | rfl | (simp only [List.length_drop, List.length_take]; rfl)) ?_; (with_reducible refine (lombardlaw02_alive.calls k  true _ A4.out).mono ?_); rintro e w10 ⟨rfl, hb⟩; refine ⟨_, rfl, ?_⟩; have n0_ := Aside0.mk (below_step (by repeat (first | (with_reducible first | exact HB.out | apply below_alloc | apply pw_below_drewN | apply below_drew1) | exact HB.out)) hb); clear HB; have HB := n0_; clear n0_; (try clear hb); (try clear hb2); (try clear hk); (try clear hi)) | ((with_reducible refine gate_callee (f := 18) rfl ?_); refine goesL_ (some 19) rfl rfl Try.func18 (by kernel_rfl) rfl #[.int .i64 a0, .int .i64 a1, .int .i64 a2, .int .i64 1] rfl (by (try simp only [List.map_toArray, List.map_cons, List.map_nil]); first | done | rfl | (simp only [List.length_drop, List.length_take]; rfl)) ?_; (with_reducible refine (wide_MulDiv.calls k a0 a1 a2 1 t405 t406 _ A6.out).mono ?_); rintro e w11 ⟨rfl, hb⟩; refine ⟨_, rfl, ?_⟩; have n0_ := Aside0.mk (below_step (by repeat (first | (with_reducible first | exact HB.out | apply below_alloc | apply pw_below_drewN | apply below_drew1) | exact HB.out)) hb); clear HB; have HB := n0_; clear n0_; (try clear hb); (try clear hb2); (try clear hk); (try clear hi)) | ((with_reducible refine gate_callee (f := 18) rfl ?_); refine goesL_ (some 26) rfl rfl Try.func18 (by kernel_rfl) rfl #[.int .i64 a0, .int .i64 a1, .int .i64 a2, .int .i64 0] rfl (by (try simp only [List.map_toArray, List.map_cons, List.map_nil]); first | done | rfl | (simp only [List.length_drop, List.length_take]; rfl)) ?_; (with_reducible refine (wide_MulDiv.calls k a0 a1 a2 0 t407 t408 _ A7.out).mono ?_); rintro e w12 ⟨rfl, hb⟩; refine ⟨_, rfl, ?_⟩; have n0_ := Aside0.mk (below_step (by repeat (first | (with_reducible first | exact HB.out | apply below_alloc | apply pw_below_drewN | apply below_drew1) | exact HB.out)) hb); clear HB; have HB := n0_; clear n0_; (try clear hb); (try clear hb2); (try clear hk); (try clear hi)))
      have H := HC9.out
      clear HC9
      by_cases c13 : t406 = 4
      · rw [if_pos c13] at H
        have c13b0 : (t406 == 4) = true := beq_iff_eq.mpr c13
        have c13b1 : (t406 != 4) = false := bne_eq_false_iff_eq.mpr c13
        clear c13
        obtain rfl := Option.some.inj H
        go_wp2
        go_ret
        exact ⟨by first | rfl | (simp [errW_none, errW_some] <;> rfl) | (simp [*, errW_none, errW_some] <;> rfl), by repeat (first | (with_reducible first | exact HB.out | apply below_alloc | apply pw_below_drewN | apply below_drew1) | exact HB.out)⟩
      · rw [if_neg c13] at H
        have c13b0 : (t406 == 4) = false := beq_eq_false_iff_ne.mpr c13
        have c13b1 : (t406 != 4) = true := bne_iff_ne.mpr c13
        obtain rfl := Option.some.inj H
        go_wp2
        go_ret
        exact ⟨by first | rfl | (simp [errW_none, errW_some] <;> rfl) | (simp [*, errW_none, errW_some] <;> rfl), by repeat (first | (with_reducible first | exact HB.out | apply below_alloc | apply pw_below_drewN | apply below_drew1) | exact HB.out)⟩
    · rw [if_neg c8] at H
      have c8b0 : (a2 == 0) = false := beq_eq_false_iff_ne.mpr c8
      have c8b1 : (a2 != 0) = true := bne_iff_ne.mpr c8
      have HC14 := Aside0.mk H
      clear H
      go_enter Try.func12, Try.ntmps12
      go_upto_region 7 with (first | ((with_reducible refine gate_callee (f := 15) rfl ?_); refine goesL_ (some 13) rfl rfl Try.func15 (by kernel_rfl) rfl #[] rfl (by (try simp only [List.map_toArray, List.map_cons, List.map_nil]); first | done | rfl | (simp only [List.length_drop, List.length_take]; rfl)) ?_; (with_reducible refine (lombardlaw02_alive.calls k  true _ A4.out).mono ?_); rintro e w15 ⟨rfl, hb⟩; refine ⟨_, rfl, ?_⟩; have n0_ := Aside0.mk (below_step (by repeat (first | (with_reducible first | exact HB.out | apply below_alloc | apply pw_below_drewN | apply below_drew1) | exact HB.out)) hb); clear HB; have HB := n0_; clear n0_; (try clear hb); (try clear hb2); (try clear hk); (try clear hi)) | ((with_reducible refine gate_callee (f := 18) rfl ?_); refine goesL_ (some 19) rfl rfl Try.func18 (by kernel_rfl) rfl #[.int .i64 a0, .int .i64 a1, .int .i64 a2, .int .i64 1] rfl (by (try simp only [List.map_toArray, List.map_cons, List.map_nil]); first | done | rfl | (simp only [List.length_drop, List.length_take]; rfl)) ?_; (with_reducible refine (wide_MulDiv.calls k a0 a1 a2 1 t405 t406 _ A6.out).mono ?_); rintro e w16 ⟨rfl, hb⟩; refine ⟨_, rfl, ?_⟩; have n0_ := Aside0.mk (below_step (by repeat (first | (with_reducible first | exact HB.out | apply below_alloc | apply pw_below_drewN | apply below_drew1) | exact HB.out)) hb); clear HB; have HB := n0_; clear n0_; (try clear hb); (try clear hb2); (try clear hk); (try clear hi)) | ((with_reducible refine gate_callee (f := 18) rfl ?_); refine goesL_ (some 26) rfl rfl Try.func18 (by kernel_rfl) rfl #[.int .i64 a0, .int .i64 a1, .int .i64 a2, .int .i64 0] rfl (by (try simp only [List.map_toArray, List.map_cons, List.map_nil]); first | done | rfl | (simp only [List.length_drop, List.length_take]; rfl)) ?_; (with_reducible refine (wide_MulDiv.calls k a0 a1 a2 0 t407 t408 _ A7.out).mono ?_); rintro e w17 ⟨rfl, hb⟩; refine ⟨_, rfl, ?_⟩; have n0_ := Aside0.mk (below_step (by repeat (first | (with_reducible first | exact HB.out | apply below_alloc | apply pw_below_drewN | apply below_drew1) | exact HB.out)) hb); clear HB; have HB := n0_; clear n0_; (try clear hb); (try clear hb2); (try clear hk); (try clear hi)))
      (try simp only [Act.put, List.setIfInBounds_toArray, List.set_cons_zero, List.set_cons_succ])
      go_cut [42] (fun v42 wc => ∃ (kq : Nat) (x42_13 : Bool), v42 = .bool x42_13 ∧ Aside0 (lombardlaw02_WideRounds.j0 kq a0 a1 a2 t405 t406 t407 t408 x42_13 = some r) ∧ Aside0 (kq ≤ k) ∧ Aside0 (Below w.heap.size w wc))
      case first =>
        have H := HC14.out
        clear HC14
        by_cases c18 : t406 = 0
        · rw [if_pos c18] at H
          have c18b0 : (t406 == 0) = true := beq_iff_eq.mpr c18
          have c18b1 : (t406 != 0) = false := bne_eq_false_iff_eq.mpr c18
          clear c18
          (first | rw [c18b0] | (simp only [i64_w, i32_w]; rw [c18b0]) | skip)
          have H' := Aside0.mk H
          clear H
          go_wp2
          go_meet
          case rel => exact ⟨_, ((t408 != 0)), (by first | rfl | (simp; done) | (simp [*]; done)), H', ⟨by first | omega | exact Nat.le_refl _⟩, ⟨by repeat (first | (with_reducible first | exact HB.out | apply below_alloc | apply pw_below_drewN | apply below_drew1) | exact HB.out)⟩⟩
        · rw [if_neg c18] at H
          have c18b0 : (t406 == 0) = false := beq_eq_false_iff_ne.mpr c18
          have c18b1 : (t406 != 0) = true := bne_iff_ne.mpr c18
          (first | rw [c18b0] | (simp only [i64_w, i32_w]; rw [c18b0]) | skip)
          have H' := Aside0.mk H
          clear H
          go_wp2
          go_meet
          case rel => exact ⟨_, (true), (by first | rfl | (simp; done) | (simp [*]; done)), H', ⟨by first | omega | exact Nat.le_refl _⟩, ⟨by repeat (first | (with_reducible first | exact HB.out | apply below_alloc | apply pw_below_drewN | apply below_drew1) | exact HB.out)⟩⟩
      case rest =>
        clear HC14
        try clear c1
        try clear p2
        try clear c5
        try clear c8
        try clear c8b0
        try clear c8b1
        try clear c12
        try clear c13
        try clear c13b0
        try clear c13b1
        try clear c15
        try clear c18
        try clear c18b0
        try clear c18b1
        obtain ⟨kq, x42_13, rfl, HA, HJ13, HB⟩ := hcut
        cases kq with
        | zero => exact absurd HA.out (by simp [lombardlaw02_WideRounds.j0])
        | succ kj13 =>
          have H := HA.out
          clear HA
          simp only [lombardlaw02_WideRounds.j0] at H
          by_cases c19 : x42_13 = true
          · subst c19
            have H1 : (if t406 = 0 then (if t408 = 0 then (some true) else (some (t408 == 3))) else (if t406 = 3 then (if t408 = 0 then (some true) else (some (t408 == 3))) else (some false))) = some r := by rw [if_pos rfl] at H; exact H
            clear H
            have H := H1
            clear H1
            by_cases c20 : t406 = 0
            · rw [if_pos c20] at H
              have c20b0 : (t406 == 0) = true := beq_iff_eq.mpr c20
              have c20b1 : (t406 != 0) = false := bne_eq_false_iff_eq.mpr c20
              clear c20
              by_cases c21 : t408 = 0
              · rw [if_pos c21] at H
                have c21b0 : (t408 == 0) = true := beq_iff_eq.mpr c21
                have c21b1 : (t408 != 0) = false := bne_eq_false_iff_eq.mpr c21
                clear c21
                obtain rfl := Option.some.inj H
                go_wp2
                go_ret
                exact ⟨by first | rfl | (simp [errW_none, errW_some] <;> rfl) | (simp [*, errW_none, errW_some] <;> rfl), by repeat (first | (with_reducible first | exact HB.out | apply below_alloc | apply pw_below_drewN | apply below_drew1) | exact HB.out)⟩
              · rw [if_neg c21] at H
                have c21b0 : (t408 == 0) = false := beq_eq_false_iff_ne.mpr c21
                have c21b1 : (t408 != 0) = true := bne_iff_ne.mpr c21
                obtain rfl := Option.some.inj H
                go_wp2
                go_ret
                exact ⟨by first | rfl | (simp [errW_none, errW_some] <;> rfl) | (simp [*, errW_none, errW_some] <;> rfl), by repeat (first | (with_reducible first | exact HB.out | apply below_alloc | apply pw_below_drewN | apply below_drew1) | exact HB.out)⟩
            · rw [if_neg c20] at H
              have c20b0 : (t406 == 0) = false := beq_eq_false_iff_ne.mpr c20
              have c20b1 : (t406 != 0) = true := bne_iff_ne.mpr c20
              by_cases c22 : t406 = 3
              · rw [if_pos c22] at H
                have c22b0 : (t406 == 3) = true := beq_iff_eq.mpr c22
                have c22b1 : (t406 != 3) = false := bne_eq_false_iff_eq.mpr c22
                clear c22
                by_cases c23 : t408 = 0
                · rw [if_pos c23] at H
                  have c23b0 : (t408 == 0) = true := beq_iff_eq.mpr c23
                  have c23b1 : (t408 != 0) = false := bne_eq_false_iff_eq.mpr c23
                  clear c23
                  obtain rfl := Option.some.inj H
                  go_wp2
                  go_ret
                  exact ⟨by first | rfl | (simp [errW_none, errW_some] <;> rfl) | (simp [*, errW_none, errW_some] <;> rfl), by repeat (first | (with_reducible first | exact HB.out | apply below_alloc | apply pw_below_drewN | apply below_drew1) | exact HB.out)⟩
                · rw [if_neg c23] at H
                  have c23b0 : (t408 == 0) = false := beq_eq_false_iff_ne.mpr c23
                  have c23b1 : (t408 != 0) = true := bne_iff_ne.mpr c23
                  obtain rfl := Option.some.inj H
                  go_wp2
                  go_ret
                  exact ⟨by first | rfl | (simp [errW_none, errW_some] <;> rfl) | (simp [*, errW_none, errW_some] <;> rfl), by repeat (first | (with_reducible first | exact HB.out | apply below_alloc | apply pw_below_drewN | apply below_drew1) | exact HB.out)⟩
              · rw [if_neg c22] at H
                have c22b0 : (t406 == 3) = false := beq_eq_false_iff_ne.mpr c22
                have c22b1 : (t406 != 3) = true := bne_iff_ne.mpr c22
                obtain rfl := Option.some.inj H
                go_wp2
                go_ret
                exact ⟨by first | rfl | (simp [errW_none, errW_some] <;> rfl) | (simp [*, errW_none, errW_some] <;> rfl), by repeat (first | (with_reducible first | exact HB.out | apply below_alloc | apply pw_below_drewN | apply below_drew1) | exact HB.out)⟩
          · replace c19 := Bool.eq_false_iff.mpr c19
            subst c19
            have H1 : (if t405 = t407 then (lombardlaw02_WideRounds.j1 kj13 a0 a1 a2 t407 false) else (lombardlaw02_WideRounds.j1 kj13 a0 a1 a2 t407 (t405 != (wrap64 (t407 + 1))))) = some r := by rw [if_neg (show ¬ (false = true) by decide)] at H; exact H
            clear H
            have H := H1
            clear H1
            have HC24 := Aside0.mk H
            clear H
            go_upto_region 9 with (fail)
            go_cut [65] (fun v65 wc => ∃ (kq : Nat) (x65_23 : Bool), v65 = .bool x65_23 ∧ Aside0 (lombardlaw02_WideRounds.j1 kq a0 a1 a2 t407 x65_23 = some r) ∧ Aside0 (kq ≤ kj13) ∧ Aside0 (Below w.heap.size w wc))
            case first =>
              have H := HC24.out
              clear HC24
              by_cases c25 : t405 = t407
              · rw [if_pos c25] at H
                have c25b0 : (t405 == t407) = true := beq_iff_eq.mpr c25
                have c25b1 : (t405 != t407) = false := bne_eq_false_iff_eq.mpr c25
                clear c25
                (first | rw [c25b0] | (simp only [i64_w, i32_w]; rw [c25b0]) | skip)
                have H' := Aside0.mk H
                clear H
                go_wp2
                go_meet
                case rel => exact ⟨_, (false), (by first | rfl | (simp; done) | (simp [*]; done)), H', ⟨by have := HJ13.out; first | omega | exact Nat.le_refl _⟩, ⟨by repeat (first | (with_reducible first | exact HB.out | apply below_alloc | apply pw_below_drewN | apply below_drew1) | exact HB.out)⟩⟩
              · rw [if_neg c25] at H
                have c25b0 : (t405 == t407) = false := beq_eq_false_iff_ne.mpr c25
                have c25b1 : (t405 != t407) = true := bne_iff_ne.mpr c25
                (first | rw [c25b0] | (simp only [i64_w, i32_w]; rw [c25b0]) | skip)
                have H' := Aside0.mk H
                clear H
                go_wp2
                go_meet
                case rel => exact ⟨_, ((t405 != (wrap64 (t407 + 1)))), (by first | rfl | (simp; done) | (simp [*]; done)), H', ⟨by have := HJ13.out; first | omega | exact Nat.le_refl _⟩, ⟨by repeat (first | (with_reducible first | exact HB.out | apply below_alloc | apply pw_below_drewN | apply below_drew1) | exact HB.out)⟩⟩
            case rest =>
              clear HC24
              try clear c1
              try clear c2
              try clear p2
              try clear c5
              try clear p6
              try clear c8
              try clear c8b0
              try clear c8b1
              try clear c12
              try clear c13
              try clear c13b0
              try clear c13b1
              try clear c15
              try clear c18
              try clear c18b0
              try clear c18b1
              try clear c19
              try clear c20
              try clear c20b0
              try clear c20b1
              try clear c21
              try clear c21b0
              try clear c21b1
              try clear c22
              try clear c22b0
              try clear c22b1
              try clear c23
              try clear c23b0
              try clear c23b1
              try clear c25
              try clear c25b0
              try clear c25b1
              try clear p2
              obtain ⟨kq, x65_23, rfl, HA, HJ23, HB⟩ := hcut
              cases kq with
              | zero => exact absurd HA.out (by simp [lombardlaw02_WideRounds.j1])
              | succ kj23 =>
                have H := HA.out
                clear HA
                simp only [lombardlaw02_WideRounds.j1] at H
                by_cases c26 : x65_23 = true
                · subst c26
                  have H1 : (some false) = some r := by rw [if_pos rfl] at H; exact H
                  clear H
                  have H := H1
                  clear H1
                  obtain rfl := Option.some.inj H
                  go_wp2
                  go_ret
                  exact ⟨by first | rfl | (simp [errW_none, errW_some] <;> rfl) | (simp [*, errW_none, errW_some] <;> rfl), by repeat (first | (with_reducible first | exact HB.out | apply below_alloc | apply pw_below_drewN | apply below_drew1) | exact HB.out)⟩
                · replace c26 := Bool.eq_false_iff.mpr c26
                  subst c26
                  have H1 : ((wide_Mul.f t407 a2).bind fun bt409 => ((wide_Mul.f a0 a1).bind fun bt411 => ((wide_Compare.f kj23 bt409.1 bt409.2 bt411.1 bt411.2).bind fun t413 => (if t407 < 9223372036854775807 then ((wide_Mul.f (wrap64 (t407 + 1)) a2).bind fun bt414 => ((wide_Mul.f a0 a1).bind fun bt416 => ((wide_Compare.f kj23 bt414.1 bt414.2 bt416.1 bt416.2).bind fun t418 => (if a2 > 0 then (if t413 ≤ 0 then (some (decide (t418 > 0))) else (some false)) else (if t413 ≥ 0 then (some (decide (t418 < 0))) else (some false)))))) else (if a2 < 0 then (if a2 > 0 then (if t413 ≤ 0 then (some (decide ((-1) > 0))) else (some false)) else (if t413 ≥ 0 then (some (decide ((-1) < 0))) else (some false))) else (if a2 > 0 then (if t413 ≤ 0 then (some (decide (1 > 0))) else (some false)) else (if t413 ≥ 0 then (some (decide (1 < 0))) else (some false)))))))) = some r := by rw [if_neg (show ¬ (false = true) by decide)] at H; exact H
                  clear H
                  have H := H1
                  clear H1
                  replace H := Option.bind_eq_some_iff.mp H
                  obtain ⟨⟨t409, t410⟩, A270, H⟩ := H
                  replace H : ((wide_Mul.f a0 a1).bind fun bt411 => ((wide_Compare.f kj23 t409 t410 bt411.1 bt411.2).bind fun t413 => (if t407 < 9223372036854775807 then ((wide_Mul.f (wrap64 (t407 + 1)) a2).bind fun bt414 => ((wide_Mul.f a0 a1).bind fun bt416 => ((wide_Compare.f kj23 bt414.1 bt414.2 bt416.1 bt416.2).bind fun t418 => (if a2 > 0 then (if t413 ≤ 0 then (some (decide (t418 > 0))) else (some false)) else (if t413 ≥ 0 then (some (decide (t418 < 0))) else (some false)))))) else (if a2 < 0 then (if a2 > 0 then (if t413 ≤ 0 then (some (decide ((-1) > 0))) else (some false)) else (if t413 ≥ 0 then (some (decide ((-1) < 0))) else (some false))) else (if a2 > 0 then (if t413 ≤ 0 then (some (decide (1 > 0))) else (some false)) else (if t413 ≥ 0 then (some (decide (1 < 0))) else (some false))))))) = some r := H
                  have A27 := Aside0.mk A270
                  clear A270
                  replace H := Option.bind_eq_some_iff.mp H
                  obtain ⟨⟨t411, t412⟩, A280, H⟩ := H
                  replace H : ((wide_Compare.f kj23 t409 t410 t411 t412).bind fun t413 => (if t407 < 9223372036854775807 then ((wide_Mul.f (wrap64 (t407 + 1)) a2).bind fun bt414 => ((wide_Mul.f a0 a1).bind fun bt416 => ((wide_Compare.f kj23 bt414.1 bt414.2 bt416.1 bt416.2).bind fun t418 => (if a2 > 0 then (if t413 ≤ 0 then (some (decide (t418 > 0))) else (some false)) else (if t413 ≥ 0 then (some (decide (t418 < 0))) else (some false)))))) else (if a2 < 0 then (if a2 > 0 then (if t413 ≤ 0 then (some (decide ((-1) > 0))) else (some false)) else (if t413 ≥ 0 then (some (decide ((-1) < 0))) else (some false))) else (if a2 > 0 then (if t413 ≤ 0 then (some (decide (1 > 0))) else (some false)) else (if t413 ≥ 0 then (some (decide (1 < 0))) else (some false)))))) = some r := H
                  have A28 := Aside0.mk A280
                  clear A280
                  replace H := Option.bind_eq_some_iff.mp H
                  obtain ⟨t413, A290, H⟩ := H
                  replace H : (if t407 < 9223372036854775807 then ((wide_Mul.f (wrap64 (t407 + 1)) a2).bind fun bt414 => ((wide_Mul.f a0 a1).bind fun bt416 => ((wide_Compare.f kj23 bt414.1 bt414.2 bt416.1 bt416.2).bind fun t418 => (if a2 > 0 then (if t413 ≤ 0 then (some (decide (t418 > 0))) else (some false)) else (if t413 ≥ 0 then (some (decide (t418 < 0))) else (some false)))))) else (if a2 < 0 then (if a2 > 0 then (if t413 ≤ 0 then (some (decide ((-1) > 0))) else (some false)) else (if t413 ≥ 0 then (some (decide ((-1) < 0))) else (some false))) else (if a2 > 0 then (if t413 ≤ 0 then (some (decide (1 > 0))) else (some false)) else (if t413 ≥ 0 then (some (decide (1 < 0))) else (some false))))) = some r := H
                  have A29 := Aside0.mk A290
                  clear A290
                  by_cases c30 : t407 < 9223372036854775807
                  · rw [if_pos c30] at H
                    have c30b0 : decide (t407 < 9223372036854775807) = true := decide_eq_true c30
                    clear c30
                    replace H := Option.bind_eq_some_iff.mp H
                    obtain ⟨⟨t414, t415⟩, A310, H⟩ := H
                    replace H : ((wide_Mul.f a0 a1).bind fun bt416 => ((wide_Compare.f kj23 t414 t415 bt416.1 bt416.2).bind fun t418 => (if a2 > 0 then (if t413 ≤ 0 then (some (decide (t418 > 0))) else (some false)) else (if t413 ≥ 0 then (some (decide (t418 < 0))) else (some false))))) = some r := H
                    have A31 := Aside0.mk A310
                    clear A310
                    replace H := Option.bind_eq_some_iff.mp H
                    obtain ⟨⟨t416, t417⟩, A320, H⟩ := H
                    replace H : ((wide_Compare.f kj23 t414 t415 t416 t417).bind fun t418 => (if a2 > 0 then (if t413 ≤ 0 then (some (decide (t418 > 0))) else (some false)) else (if t413 ≥ 0 then (some (decide (t418 < 0))) else (some false)))) = some r := H
                    have A32 := Aside0.mk A320
                    clear A320
                    replace H := Option.bind_eq_some_iff.mp H
                    obtain ⟨t418, A330, H⟩ := H
                    replace H : (if a2 > 0 then (if t413 ≤ 0 then (some (decide (t418 > 0))) else (some false)) else (if t413 ≥ 0 then (some (decide (t418 < 0))) else (some false))) = some r := H
                    have A33 := Aside0.mk A330
                    clear A330
                    by_cases c34 : a2 > 0
                    · rw [if_pos c34] at H
                      have c34b0 : decide (0 < a2) = true := decide_eq_true c34
                      clear c34
                      have HC35 := Aside0.mk H
                      clear H
                      go_upto_region 17 with (first | ((with_reducible refine gate_callee (f := 28) rfl ?_); refine goesL_ (some 68) rfl rfl Try.func28 (by kernel_rfl) rfl #[.int .i64 t407, .int .i64 a2] rfl (by (try simp only [List.map_toArray, List.map_cons, List.map_nil]); first | done | rfl | (simp only [List.length_drop, List.length_take]; rfl)) ?_; (with_reducible refine (wide_Mul.calls t407 a2 t409 t410 _ A27.out).mono ?_); rintro e w36 ⟨rfl, hb⟩; refine ⟨_, rfl, ?_⟩; have n0_ := Aside0.mk (below_step (by repeat (first | (with_reducible first | exact HB.out | apply below_alloc | apply pw_below_drewN | apply below_drew1) | exact HB.out)) hb); clear HB; have HB := n0_; clear n0_; (try clear hb); (try clear hb2); (try clear hk); (try clear hi)) | ((with_reducible refine gate_callee (f := 28) rfl ?_); refine goesL_ (some 71) rfl rfl Try.func28 (by kernel_rfl) rfl #[.int .i64 a0, .int .i64 a1] rfl (by (try simp only [List.map_toArray, List.map_cons, List.map_nil]); first | done | rfl | (simp only [List.length_drop, List.length_take]; rfl)) ?_; (with_reducible refine (wide_Mul.calls a0 a1 t411 t412 _ A28.out).mono ?_); rintro e w37 ⟨rfl, hb⟩; refine ⟨_, rfl, ?_⟩; have n0_ := Aside0.mk (below_step (by repeat (first | (with_reducible first | exact HB.out | apply below_alloc | apply pw_below_drewN | apply below_drew1) | exact HB.out)) hb); clear HB; have HB := n0_; clear n0_; (try clear hb); (try clear hb2); (try clear hk); (try clear hi)) | ((with_reducible refine gate_callee (f := 39) rfl ?_); refine goesL_ (some 72) rfl rfl Try.func39 (by kernel_rfl) rfl #[.agg #[.int .i64 t409, .int .u64 t410], .agg #[.int .i64 t411, .int .u64 t412]] rfl (by (try simp only [List.map_toArray, List.map_cons, List.map_nil]); first | done | rfl | (simp only [List.length_drop, List.length_take]; rfl)) ?_; (with_reducible refine (wide_Compare.calls kj23 t409 t410 t411 t412 t413 _ A29.out).mono ?_); rintro e w38 ⟨rfl, hb⟩; refine ⟨_, rfl, ?_⟩; have n0_ := Aside0.mk (below_step (by repeat (first | (with_reducible first | exact HB.out | apply below_alloc | apply pw_below_drewN | apply below_drew1) | exact HB.out)) hb); clear HB; have HB := n0_; clear n0_; (try clear hb); (try clear hb2); (try clear hk); (try clear hi)) | ((with_reducible refine gate_callee (f := 28) rfl ?_); refine goesL_ (some 78) rfl rfl Try.func28 (by kernel_rfl) rfl #[.int .i64 (wrap64 (t407 + 1)), .int .i64 a2] rfl (by (try simp only [List.map_toArray, List.map_cons, List.map_nil]); first | done | rfl | (simp only [List.length_drop, List.length_take]; rfl)) ?_; (with_reducible refine (wide_Mul.calls (wrap64 (t407 + 1)) a2 t414 t415 _ A31.out).mono ?_); rintro e w39 ⟨rfl, hb⟩; refine ⟨_, rfl, ?_⟩; have n0_ := Aside0.mk (below_step (by repeat (first | (with_reducible first | exact HB.out | apply below_alloc | apply pw_below_drewN | apply below_drew1) | exact HB.out)) hb); clear HB; have HB := n0_; clear n0_; (try clear hb); (try clear hb2); (try clear hk); (try clear hi)) | ((with_reducible refine gate_callee (f := 28) rfl ?_); refine goesL_ (some 81) rfl rfl Try.func28 (by kernel_rfl) rfl #[.int .i64 a0, .int .i64 a1] rfl (by (try simp only [List.map_toArray, List.map_cons, List.map_nil]); first | done | rfl | (simp only [List.length_drop, List.length_take]; rfl)) ?_; (with_reducible refine (wide_Mul.calls a0 a1 t416 t417 _ A32.out).mono ?_); rintro e w40 ⟨rfl, hb⟩; refine ⟨_, rfl, ?_⟩; have n0_ := Aside0.mk (below_step (by repeat (first | (with_reducible first | exact HB.out | apply below_alloc | apply pw_below_drewN | apply below_drew1) | exact HB.out)) hb); clear HB; have HB := n0_; clear n0_; (try clear hb); (try clear hb2); (try clear hk); (try clear hi)) | ((with_reducible refine gate_callee (f := 39) rfl ?_); refine goesL_ (some 82) rfl rfl Try.func39 (by kernel_rfl) rfl #[.agg #[.int .i64 t414, .int .u64 t415], .agg #[.int .i64 t416, .int .u64 t417]] rfl (by (try simp only [List.map_toArray, List.map_cons, List.map_nil]); first | done | rfl | (simp only [List.length_drop, List.length_take]; rfl)) ?_; (with_reducible refine (wide_Compare.calls kj23 t414 t415 t416 t417 t418 _ A33.out).mono ?_); rintro e w41 ⟨rfl, hb⟩; refine ⟨_, rfl, ?_⟩; have n0_ := Aside0.mk (below_step (by repeat (first | (with_reducible first | exact HB.out | apply below_alloc | apply pw_below_drewN | apply below_drew1) | exact HB.out)) hb); clear HB; have HB := n0_; clear n0_; (try clear hb); (try clear hb2); (try clear hk); (try clear hi)))
                      have H := HC35.out
                      clear HC35
                      by_cases c42 : t413 ≤ 0
                      · rw [if_pos c42] at H
                        have c42b0 : decide (t413 ≤ 0) = true := decide_eq_true c42
                        clear c42
                        obtain rfl := Option.some.inj H
                        go_wp2
                        go_ret
                        exact ⟨by first | rfl | (simp [errW_none, errW_some] <;> rfl) | (simp [*, errW_none, errW_some] <;> rfl), by repeat (first | (with_reducible first | exact HB.out | apply below_alloc | apply pw_below_drewN | apply below_drew1) | exact HB.out)⟩
                      · rw [if_neg c42] at H
                        have c42b0 : decide (t413 ≤ 0) = false := decide_eq_false c42
                        clear c42
                        obtain rfl := Option.some.inj H
                        go_wp2
                        go_ret
                        exact ⟨by first | rfl | (simp [errW_none, errW_some] <;> rfl) | (simp [*, errW_none, errW_some] <;> rfl), by repeat (first | (with_reducible first | exact HB.out | apply below_alloc | apply pw_below_drewN | apply below_drew1) | exact HB.out)⟩
                    · rw [if_neg c34] at H
                      have c34b0 : decide (0 < a2) = false := decide_eq_false c34
                      clear c34
                      have HC43 := Aside0.mk H
                      clear H
                      go_upto_region 18 with (first | ((with_reducible refine gate_callee (f := 28) rfl ?_); refine goesL_ (some 68) rfl rfl Try.func28 (by kernel_rfl) rfl #[.int .i64 t407, .int .i64 a2] rfl (by (try simp only [List.map_toArray, List.map_cons, List.map_nil]); first | done | rfl | (simp only [List.length_drop, List.length_take]; rfl)) ?_; (with_reducible refine (wide_Mul.calls t407 a2 t409 t410 _ A27.out).mono ?_); rintro e w44 ⟨rfl, hb⟩; refine ⟨_, rfl, ?_⟩; have n0_ := Aside0.mk (below_step (by repeat (first | (with_reducible first | exact HB.out | apply below_alloc | apply pw_below_drewN | apply below_drew1) | exact HB.out)) hb); clear HB; have HB := n0_; clear n0_; (try clear hb); (try clear hb2); (try clear hk); (try clear hi)) | ((with_reducible refine gate_callee (f := 28) rfl ?_); refine goesL_ (some 71) rfl rfl Try.func28 (by kernel_rfl) rfl #[.int .i64 a0, .int .i64 a1] rfl (by (try simp only [List.map_toArray, List.map_cons, List.map_nil]); first | done | rfl | (simp only [List.length_drop, List.length_take]; rfl)) ?_; (with_reducible refine (wide_Mul.calls a0 a1 t411 t412 _ A28.out).mono ?_); rintro e w45 ⟨rfl, hb⟩; refine ⟨_, rfl, ?_⟩; have n0_ := Aside0.mk (below_step (by repeat (first | (with_reducible first | exact HB.out | apply below_alloc | apply pw_below_drewN | apply below_drew1) | exact HB.out)) hb); clear HB; have HB := n0_; clear n0_; (try clear hb); (try clear hb2); (try clear hk); (try clear hi)) | ((with_reducible refine gate_callee (f := 39) rfl ?_); refine goesL_ (some 72) rfl rfl Try.func39 (by kernel_rfl) rfl #[.agg #[.int .i64 t409, .int .u64 t410], .agg #[.int .i64 t411, .int .u64 t412]] rfl (by (try simp only [List.map_toArray, List.map_cons, List.map_nil]); first | done | rfl | (simp only [List.length_drop, List.length_take]; rfl)) ?_; (with_reducible refine (wide_Compare.calls kj23 t409 t410 t411 t412 t413 _ A29.out).mono ?_); rintro e w46 ⟨rfl, hb⟩; refine ⟨_, rfl, ?_⟩; have n0_ := Aside0.mk (below_step (by repeat (first | (with_reducible first | exact HB.out | apply below_alloc | apply pw_below_drewN | apply below_drew1) | exact HB.out)) hb); clear HB; have HB := n0_; clear n0_; (try clear hb); (try clear hb2); (try clear hk); (try clear hi)) | ((with_reducible refine gate_callee (f := 28) rfl ?_); refine goesL_ (some 78) rfl rfl Try.func28 (by kernel_rfl) rfl #[.int .i64 (wrap64 (t407 + 1)), .int .i64 a2] rfl (by (try simp only [List.map_toArray, List.map_cons, List.map_nil]); first | done | rfl | (simp only [List.length_drop, List.length_take]; rfl)) ?_; (with_reducible refine (wide_Mul.calls (wrap64 (t407 + 1)) a2 t414 t415 _ A31.out).mono ?_); rintro e w47 ⟨rfl, hb⟩; refine ⟨_, rfl, ?_⟩; have n0_ := Aside0.mk (below_step (by repeat (first | (with_reducible first | exact HB.out | apply below_alloc | apply pw_below_drewN | apply below_drew1) | exact HB.out)) hb); clear HB; have HB := n0_; clear n0_; (try clear hb); (try clear hb2); (try clear hk); (try clear hi)) | ((with_reducible refine gate_callee (f := 28) rfl ?_); refine goesL_ (some 81) rfl rfl Try.func28 (by kernel_rfl) rfl #[.int .i64 a0, .int .i64 a1] rfl (by (try simp only [List.map_toArray, List.map_cons, List.map_nil]); first | done | rfl | (simp only [List.length_drop, List.length_take]; rfl)) ?_; (with_reducible refine (wide_Mul.calls a0 a1 t416 t417 _ A32.out).mono ?_); rintro e w48 ⟨rfl, hb⟩; refine ⟨_, rfl, ?_⟩; have n0_ := Aside0.mk (below_step (by repeat (first | (with_reducible first | exact HB.out | apply below_alloc | apply pw_below_drewN | apply below_drew1) | exact HB.out)) hb); clear HB; have HB := n0_; clear n0_; (try clear hb); (try clear hb2); (try clear hk); (try clear hi)) | ((with_reducible refine gate_callee (f := 39) rfl ?_); refine goesL_ (some 82) rfl rfl Try.func39 (by kernel_rfl) rfl #[.agg #[.int .i64 t414, .int .u64 t415], .agg #[.int .i64 t416, .int .u64 t417]] rfl (by (try simp only [List.map_toArray, List.map_cons, List.map_nil]); first | done | rfl | (simp only [List.length_drop, List.length_take]; rfl)) ?_; (with_reducible refine (wide_Compare.calls kj23 t414 t415 t416 t417 t418 _ A33.out).mono ?_); rintro e w49 ⟨rfl, hb⟩; refine ⟨_, rfl, ?_⟩; have n0_ := Aside0.mk (below_step (by repeat (first | (with_reducible first | exact HB.out | apply below_alloc | apply pw_below_drewN | apply below_drew1) | exact HB.out)) hb); clear HB; have HB := n0_; clear n0_; (try clear hb); (try clear hb2); (try clear hk); (try clear hi)))
                      have H := HC43.out
                      clear HC43
                      by_cases c50 : t413 ≥ 0
                      · rw [if_pos c50] at H
                        have c50b0 : decide (0 ≤ t413) = true := decide_eq_true c50
                        clear c50
                        obtain rfl := Option.some.inj H
                        go_wp2
                        go_ret
                        exact ⟨by first | rfl | (simp [errW_none, errW_some] <;> rfl) | (simp [*, errW_none, errW_some] <;> rfl), by repeat (first | (with_reducible first | exact HB.out | apply below_alloc | apply pw_below_drewN | apply below_drew1) | exact HB.out)⟩
                      · rw [if_neg c50] at H
                        have c50b0 : decide (0 ≤ t413) = false := decide_eq_false c50
                        clear c50
                        obtain rfl := Option.some.inj H
                        go_wp2
                        go_ret
                        exact ⟨by first | rfl | (simp [errW_none, errW_some] <;> rfl) | (simp [*, errW_none, errW_some] <;> rfl), by repeat (first | (with_reducible first | exact HB.out | apply below_alloc | apply pw_below_drewN | apply below_drew1) | exact HB.out)⟩
                  · rw [if_neg c30] at H
                    have c30b0 : decide (t407 < 9223372036854775807) = false := decide_eq_false c30
                    clear c30
                    by_cases c51 : a2 < 0
                    · rw [if_pos c51] at H
                      have c51b0 : decide (a2 < 0) = true := decide_eq_true c51
                      clear c51
                      by_cases c52 : a2 > 0
                      · rw [if_pos c52] at H
                        have c52b0 : decide (0 < a2) = true := decide_eq_true c52
                        clear c52
                        have HC53 := Aside0.mk H
                        clear H
                        go_upto_region 17 with (first | ((with_reducible refine gate_callee (f := 28) rfl ?_); refine goesL_ (some 68) rfl rfl Try.func28 (by kernel_rfl) rfl #[.int .i64 t407, .int .i64 a2] rfl (by (try simp only [List.map_toArray, List.map_cons, List.map_nil]); first | done | rfl | (simp only [List.length_drop, List.length_take]; rfl)) ?_; (with_reducible refine (wide_Mul.calls t407 a2 t409 t410 _ A27.out).mono ?_); rintro e w54 ⟨rfl, hb⟩; refine ⟨_, rfl, ?_⟩; have n0_ := Aside0.mk (below_step (by repeat (first | (with_reducible first | exact HB.out | apply below_alloc | apply pw_below_drewN | apply below_drew1) | exact HB.out)) hb); clear HB; have HB := n0_; clear n0_; (try clear hb); (try clear hb2); (try clear hk); (try clear hi)) | ((with_reducible refine gate_callee (f := 28) rfl ?_); refine goesL_ (some 71) rfl rfl Try.func28 (by kernel_rfl) rfl #[.int .i64 a0, .int .i64 a1] rfl (by (try simp only [List.map_toArray, List.map_cons, List.map_nil]); first | done | rfl | (simp only [List.length_drop, List.length_take]; rfl)) ?_; (with_reducible refine (wide_Mul.calls a0 a1 t411 t412 _ A28.out).mono ?_); rintro e w55 ⟨rfl, hb⟩; refine ⟨_, rfl, ?_⟩; have n0_ := Aside0.mk (below_step (by repeat (first | (with_reducible first | exact HB.out | apply below_alloc | apply pw_below_drewN | apply below_drew1) | exact HB.out)) hb); clear HB; have HB := n0_; clear n0_; (try clear hb); (try clear hb2); (try clear hk); (try clear hi)) | ((with_reducible refine gate_callee (f := 39) rfl ?_); refine goesL_ (some 72) rfl rfl Try.func39 (by kernel_rfl) rfl #[.agg #[.int .i64 t409, .int .u64 t410], .agg #[.int .i64 t411, .int .u64 t412]] rfl (by (try simp only [List.map_toArray, List.map_cons, List.map_nil]); first | done | rfl | (simp only [List.length_drop, List.length_take]; rfl)) ?_; (with_reducible refine (wide_Compare.calls kj23 t409 t410 t411 t412 t413 _ A29.out).mono ?_); rintro e w56 ⟨rfl, hb⟩; refine ⟨_, rfl, ?_⟩; have n0_ := Aside0.mk (below_step (by repeat (first | (with_reducible first | exact HB.out | apply below_alloc | apply pw_below_drewN | apply below_drew1) | exact HB.out)) hb); clear HB; have HB := n0_; clear n0_; (try clear hb); (try clear hb2); (try clear hk); (try clear hi)))
                        have H := HC53.out
                        clear HC53
                        by_cases c57 : t413 ≤ 0
                        · rw [if_pos c57] at H
                          have c57b0 : decide (t413 ≤ 0) = true := decide_eq_true c57
                          clear c57
                          obtain rfl := Option.some.inj H
                          go_wp2
                          go_ret
                          exact ⟨by first | rfl | (simp [errW_none, errW_some] <;> rfl) | (simp [*, errW_none, errW_some] <;> rfl), by repeat (first | (with_reducible first | exact HB.out | apply below_alloc | apply pw_below_drewN | apply below_drew1) | exact HB.out)⟩
                        · rw [if_neg c57] at H
                          have c57b0 : decide (t413 ≤ 0) = false := decide_eq_false c57
                          clear c57
                          obtain rfl := Option.some.inj H
                          go_wp2
                          go_ret
                          exact ⟨by first | rfl | (simp [errW_none, errW_some] <;> rfl) | (simp [*, errW_none, errW_some] <;> rfl), by repeat (first | (with_reducible first | exact HB.out | apply below_alloc | apply pw_below_drewN | apply below_drew1) | exact HB.out)⟩
                      · rw [if_neg c52] at H
                        have c52b0 : decide (0 < a2) = false := decide_eq_false c52
                        clear c52
                        have HC58 := Aside0.mk H
                        clear H
                        go_upto_region 18 with (first | ((with_reducible refine gate_callee (f := 28) rfl ?_); refine goesL_ (some 68) rfl rfl Try.func28 (by kernel_rfl) rfl #[.int .i64 t407, .int .i64 a2] rfl (by (try simp only [List.map_toArray, List.map_cons, List.map_nil]); first | done | rfl | (simp only [List.length_drop, List.length_take]; rfl)) ?_; (with_reducible refine (wide_Mul.calls t407 a2 t409 t410 _ A27.out).mono ?_); rintro e w59 ⟨rfl, hb⟩; refine ⟨_, rfl, ?_⟩; have n0_ := Aside0.mk (below_step (by repeat (first | (with_reducible first | exact HB.out | apply below_alloc | apply pw_below_drewN | apply below_drew1) | exact HB.out)) hb); clear HB; have HB := n0_; clear n0_; (try clear hb); (try clear hb2); (try clear hk); (try clear hi)) | ((with_reducible refine gate_callee (f := 28) rfl ?_); refine goesL_ (some 71) rfl rfl Try.func28 (by kernel_rfl) rfl #[.int .i64 a0, .int .i64 a1] rfl (by (try simp only [List.map_toArray, List.map_cons, List.map_nil]); first | done | rfl | (simp only [List.length_drop, List.length_take]; rfl)) ?_; (with_reducible refine (wide_Mul.calls a0 a1 t411 t412 _ A28.out).mono ?_); rintro e w60 ⟨rfl, hb⟩; refine ⟨_, rfl, ?_⟩; have n0_ := Aside0.mk (below_step (by repeat (first | (with_reducible first | exact HB.out | apply below_alloc | apply pw_below_drewN | apply below_drew1) | exact HB.out)) hb); clear HB; have HB := n0_; clear n0_; (try clear hb); (try clear hb2); (try clear hk); (try clear hi)) | ((with_reducible refine gate_callee (f := 39) rfl ?_); refine goesL_ (some 72) rfl rfl Try.func39 (by kernel_rfl) rfl #[.agg #[.int .i64 t409, .int .u64 t410], .agg #[.int .i64 t411, .int .u64 t412]] rfl (by (try simp only [List.map_toArray, List.map_cons, List.map_nil]); first | done | rfl | (simp only [List.length_drop, List.length_take]; rfl)) ?_; (with_reducible refine (wide_Compare.calls kj23 t409 t410 t411 t412 t413 _ A29.out).mono ?_); rintro e w61 ⟨rfl, hb⟩; refine ⟨_, rfl, ?_⟩; have n0_ := Aside0.mk (below_step (by repeat (first | (with_reducible first | exact HB.out | apply below_alloc | apply pw_below_drewN | apply below_drew1) | exact HB.out)) hb); clear HB; have HB := n0_; clear n0_; (try clear hb); (try clear hb2); (try clear hk); (try clear hi)))
                        have H := HC58.out
                        clear HC58
                        by_cases c62 : t413 ≥ 0
                        · rw [if_pos c62] at H
                          have c62b0 : decide (0 ≤ t413) = true := decide_eq_true c62
                          clear c62
                          obtain rfl := Option.some.inj H
                          go_wp2
                          go_ret
                          exact ⟨by first | rfl | (simp [errW_none, errW_some] <;> rfl) | (simp [*, errW_none, errW_some] <;> rfl), by repeat (first | (with_reducible first | exact HB.out | apply below_alloc | apply pw_below_drewN | apply below_drew1) | exact HB.out)⟩
                        · rw [if_neg c62] at H
                          have c62b0 : decide (0 ≤ t413) = false := decide_eq_false c62
                          clear c62
                          obtain rfl := Option.some.inj H
                          go_wp2
                          go_ret
                          exact ⟨by first | rfl | (simp [errW_none, errW_some] <;> rfl) | (simp [*, errW_none, errW_some] <;> rfl), by repeat (first | (with_reducible first | exact HB.out | apply below_alloc | apply pw_below_drewN | apply below_drew1) | exact HB.out)⟩
                    · rw [if_neg c51] at H
                      have c51b0 : decide (a2 < 0) = false := decide_eq_false c51
                      clear c51
                      by_cases c63 : a2 > 0
                      · rw [if_pos c63] at H
                        have c63b0 : decide (0 < a2) = true := decide_eq_true c63
                        clear c63
                        have HC64 := Aside0.mk H
                        clear H
                        go_upto_region 17 with (first | ((with_reducible refine gate_callee (f := 28) rfl ?_); refine goesL_ (some 68) rfl rfl Try.func28 (by kernel_rfl) rfl #[.int .i64 t407, .int .i64 a2] rfl (by (try simp only [List.map_toArray, List.map_cons, List.map_nil]); first | done | rfl | (simp only [List.length_drop, List.length_take]; rfl)) ?_; (with_reducible refine (wide_Mul.calls t407 a2 t409 t410 _ A27.out).mono ?_); rintro e w65 ⟨rfl, hb⟩; refine ⟨_, rfl, ?_⟩; have n0_ := Aside0.mk (below_step (by repeat (first | (with_reducible first | exact HB.out | apply below_alloc | apply pw_below_drewN | apply below_drew1) | exact HB.out)) hb); clear HB; have HB := n0_; clear n0_; (try clear hb); (try clear hb2); (try clear hk); (try clear hi)) | ((with_reducible refine gate_callee (f := 28) rfl ?_); refine goesL_ (some 71) rfl rfl Try.func28 (by kernel_rfl) rfl #[.int .i64 a0, .int .i64 a1] rfl (by (try simp only [List.map_toArray, List.map_cons, List.map_nil]); first | done | rfl | (simp only [List.length_drop, List.length_take]; rfl)) ?_; (with_reducible refine (wide_Mul.calls a0 a1 t411 t412 _ A28.out).mono ?_); rintro e w66 ⟨rfl, hb⟩; refine ⟨_, rfl, ?_⟩; have n0_ := Aside0.mk (below_step (by repeat (first | (with_reducible first | exact HB.out | apply below_alloc | apply pw_below_drewN | apply below_drew1) | exact HB.out)) hb); clear HB; have HB := n0_; clear n0_; (try clear hb); (try clear hb2); (try clear hk); (try clear hi)) | ((with_reducible refine gate_callee (f := 39) rfl ?_); refine goesL_ (some 72) rfl rfl Try.func39 (by kernel_rfl) rfl #[.agg #[.int .i64 t409, .int .u64 t410], .agg #[.int .i64 t411, .int .u64 t412]] rfl (by (try simp only [List.map_toArray, List.map_cons, List.map_nil]); first | done | rfl | (simp only [List.length_drop, List.length_take]; rfl)) ?_; (with_reducible refine (wide_Compare.calls kj23 t409 t410 t411 t412 t413 _ A29.out).mono ?_); rintro e w67 ⟨rfl, hb⟩; refine ⟨_, rfl, ?_⟩; have n0_ := Aside0.mk (below_step (by repeat (first | (with_reducible first | exact HB.out | apply below_alloc | apply pw_below_drewN | apply below_drew1) | exact HB.out)) hb); clear HB; have HB := n0_; clear n0_; (try clear hb); (try clear hb2); (try clear hk); (try clear hi)))
                        have H := HC64.out
                        clear HC64
                        by_cases c68 : t413 ≤ 0
                        · rw [if_pos c68] at H
                          have c68b0 : decide (t413 ≤ 0) = true := decide_eq_true c68
                          clear c68
                          obtain rfl := Option.some.inj H
                          go_wp2
                          go_ret
                          exact ⟨by first | rfl | (simp [errW_none, errW_some] <;> rfl) | (simp [*, errW_none, errW_some] <;> rfl), by repeat (first | (with_reducible first | exact HB.out | apply below_alloc | apply pw_below_drewN | apply below_drew1) | exact HB.out)⟩
                        · rw [if_neg c68] at H
                          have c68b0 : decide (t413 ≤ 0) = false := decide_eq_false c68
                          clear c68
                          obtain rfl := Option.some.inj H
                          go_wp2
                          go_ret
                          exact ⟨by first | rfl | (simp [errW_none, errW_some] <;> rfl) | (simp [*, errW_none, errW_some] <;> rfl), by repeat (first | (with_reducible first | exact HB.out | apply below_alloc | apply pw_below_drewN | apply below_drew1) | exact HB.out)⟩
                      · rw [if_neg c63] at H
                        have c63b0 : decide (0 < a2) = false := decide_eq_false c63
                        clear c63
                        have HC69 := Aside0.mk H
                        clear H
                        go_upto_region 18 with (first | ((with_reducible refine gate_callee (f := 28) rfl ?_); refine goesL_ (some 68) rfl rfl Try.func28 (by kernel_rfl) rfl #[.int .i64 t407, .int .i64 a2] rfl (by (try simp only [List.map_toArray, List.map_cons, List.map_nil]); first | done | rfl | (simp only [List.length_drop, List.length_take]; rfl)) ?_; (with_reducible refine (wide_Mul.calls t407 a2 t409 t410 _ A27.out).mono ?_); rintro e w70 ⟨rfl, hb⟩; refine ⟨_, rfl, ?_⟩; have n0_ := Aside0.mk (below_step (by repeat (first | (with_reducible first | exact HB.out | apply below_alloc | apply pw_below_drewN | apply below_drew1) | exact HB.out)) hb); clear HB; have HB := n0_; clear n0_; (try clear hb); (try clear hb2); (try clear hk); (try clear hi)) | ((with_reducible refine gate_callee (f := 28) rfl ?_); refine goesL_ (some 71) rfl rfl Try.func28 (by kernel_rfl) rfl #[.int .i64 a0, .int .i64 a1] rfl (by (try simp only [List.map_toArray, List.map_cons, List.map_nil]); first | done | rfl | (simp only [List.length_drop, List.length_take]; rfl)) ?_; (with_reducible refine (wide_Mul.calls a0 a1 t411 t412 _ A28.out).mono ?_); rintro e w71 ⟨rfl, hb⟩; refine ⟨_, rfl, ?_⟩; have n0_ := Aside0.mk (below_step (by repeat (first | (with_reducible first | exact HB.out | apply below_alloc | apply pw_below_drewN | apply below_drew1) | exact HB.out)) hb); clear HB; have HB := n0_; clear n0_; (try clear hb); (try clear hb2); (try clear hk); (try clear hi)) | ((with_reducible refine gate_callee (f := 39) rfl ?_); refine goesL_ (some 72) rfl rfl Try.func39 (by kernel_rfl) rfl #[.agg #[.int .i64 t409, .int .u64 t410], .agg #[.int .i64 t411, .int .u64 t412]] rfl (by (try simp only [List.map_toArray, List.map_cons, List.map_nil]); first | done | rfl | (simp only [List.length_drop, List.length_take]; rfl)) ?_; (with_reducible refine (wide_Compare.calls kj23 t409 t410 t411 t412 t413 _ A29.out).mono ?_); rintro e w72 ⟨rfl, hb⟩; refine ⟨_, rfl, ?_⟩; have n0_ := Aside0.mk (below_step (by repeat (first | (with_reducible first | exact HB.out | apply below_alloc | apply pw_below_drewN | apply below_drew1) | exact HB.out)) hb); clear HB; have HB := n0_; clear n0_; (try clear hb); (try clear hb2); (try clear hk); (try clear hi)))
                        have H := HC69.out
                        clear HC69
                        by_cases c73 : t413 ≥ 0
                        · rw [if_pos c73] at H
                          have c73b0 : decide (0 ≤ t413) = true := decide_eq_true c73
                          clear c73
                          obtain rfl := Option.some.inj H
                          go_wp2
                          go_ret
                          exact ⟨by first | rfl | (simp [errW_none, errW_some] <;> rfl) | (simp [*, errW_none, errW_some] <;> rfl), by repeat (first | (with_reducible first | exact HB.out | apply below_alloc | apply pw_below_drewN | apply below_drew1) | exact HB.out)⟩
                        · rw [if_neg c73] at H
                          have c73b0 : decide (0 ≤ t413) = false := decide_eq_false c73
                          clear c73
                          obtain rfl := Option.some.inj H
                          go_wp2
                          go_ret
                          exact ⟨by first | rfl | (simp [errW_none, errW_some] <;> rfl) | (simp [*, errW_none, errW_some] <;> rfl), by repeat (first | (with_reducible first | exact HB.out | apply below_alloc | apply pw_below_drewN | apply below_drew1) | exact HB.out)⟩
  · replace c5 := Bool.eq_false_iff.mpr c5
    subst c5
    have H1 : (some false) = some r := by rw [if_neg (show ¬ (false = true) by decide)] at H; exact H
    clear H
    have H := H1
    clear H1
    obtain rfl := Option.some.inj H
    go_enter Try.func12, Try.ntmps12
    go_wp2_with (first | ((with_reducible refine gate_callee (f := 15) rfl ?_); refine goesL_ (some 13) rfl rfl Try.func15 (by kernel_rfl) rfl #[] rfl (by (try simp only [List.map_toArray, List.map_cons, List.map_nil]); first | done | rfl | (simp only [List.length_drop, List.length_take]; rfl)) ?_; (with_reducible refine (lombardlaw02_alive.calls k  false _ A4.out).mono ?_); rintro e w74 ⟨rfl, hb⟩; refine ⟨_, rfl, ?_⟩; have n0_ := Aside0.mk (below_step (by repeat (first | (with_reducible first | exact HB.out | apply below_alloc | apply pw_below_drewN | apply below_drew1) | exact HB.out)) hb); clear HB; have HB := n0_; clear n0_; (try clear hb); (try clear hb2); (try clear hk); (try clear hi)))
    go_ret
    exact ⟨by first | rfl | (simp [errW_none, errW_some] <;> rfl) | (simp [*, errW_none, errW_some] <;> rfl), by repeat (first | (with_reducible first | exact HB.out | apply below_alloc | apply pw_below_drewN | apply below_drew1) | exact HB.out)⟩

/-- THE ONE PURE STATEMENT of lombardlaw02_WideRounds: yours. -/
def lombardlaw02_WideRounds.Pure : Prop := ∀ (a0 : Int) (a1 : Int) (a2 : Int), (Lit.int .i64 a0).wf = true → (Lit.int .i64 a1).wf = true → (Lit.int .i64 a2).wf = true → ∃ k, lombardlaw02_WideRounds.f k a0 a1 a2 = some true
theorem lombardlaw02_WideRounds.walk (P : lombardlaw02_WideRounds.Pure) (a0 : Int) (a1 : Int) (a2 : Int) (w : World) (w0 : (Lit.int .i64 a0).wf = true) (w1 : (Lit.int .i64 a1).wf = true) (w2 : (Lit.int .i64 a2).wf = true) :
    Calls Try.prog 12 #[.int .i64 a0, .int .i64 a1, .int .i64 a2] w fun e w' => e = .returned (.bool true) ∧ Below w.heap.size w w' := by
  obtain ⟨k, h⟩ := P a0 a1 a2 w0 w1 w2
  refine (lombardlaw02_WideRounds.calls k a0 a1 a2 true w h).mono ?_
  rintro e w' ⟨rfl, hd⟩
  exact ⟨rfl, hd⟩

end Go.Proofs.Ytohbdjfabghagaa.S
