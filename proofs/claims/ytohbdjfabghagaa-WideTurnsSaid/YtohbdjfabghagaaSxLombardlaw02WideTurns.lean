/- Printed by a program of this session out of the translation: what each function called here computes, and that its call comes to just that. Conditions: none beyond those that each theorem names. -/
import Derived.Test.YtohbdjfabghagaaSx0
import Derived.Test.YtohbdjfabghagaaSxWideMulDiv
import Derived.Test.YtohbdjfabghagaaSxLombardlaw02Alive
namespace Go.Proofs.Ytohbdjfabghagaa.S
open Go.RowKit Go.Proofs.YtohbdjfabghagaaW.PrintWords Go.Proofs.YtohbdjfabghagaaW.PrintLast Go.Proofs.YtohbdjfabghagaaW.PrintMore
attribute [local go_sem] max2_int min2_int max_two min_two max_three min_three max_four min_four   -- for this text's walks alone
attribute [local go_sem] Go.Proofs.Ytohbdjfabghagaa.XWalk.cell2
set_option linter.unusedVariables false
set_option linter.unusedSimpArgs false

/-! ### lombardlaw02_WideTurns: function 4 -/
mutual
def lombardlaw02_WideTurns.j0 : Nat → Int → Int → Int → Bool → Option (Bool)
  | 0, _, _, _, _ => none
  | k + 1, x0, x1, x2, x22 => if x22 = true then (some true) else ((wide_MulDiv.f k x0 x1 x2 1).bind fun bt142 => ((wide_MulDiv.f k (wrap64 (-x0)) x1 x2 1).bind fun bt144 => (if bt142.2 = 0 then (if bt144.2 = 0 then (lombardlaw02_WideTurns.j1 k x0 x1 x2 (bt144.1 != (wrap64 (-bt142.1)))) else (lombardlaw02_WideTurns.j1 k x0 x1 x2 false)) else (lombardlaw02_WideTurns.j1 k x0 x1 x2 false))))
def lombardlaw02_WideTurns.j1 : Nat → Int → Int → Int → Bool → Option (Bool)
  | 0, _, _, _, _ => none
  | k + 1, x0, x1, x2, x49 => if x49 = true then (some false) else ((wide_MulDiv.f k x0 x1 x2 0).bind fun bt146 => ((wide_MulDiv.f k (wrap64 (-x0)) x1 x2 0).bind fun bt148 => (if bt146.2 = 0 then (if bt148.2 = 0 then (if bt146.1 = (-9223372036854775808) then (some true) else (if bt148.1 = (wrap64 (-bt146.1)) then (some true) else (some (bt148.1 == (wrap64 ((wrap64 (-bt146.1)) - 1)))))) else (some true)) else (some true))))
end
def lombardlaw02_WideTurns.f (k : Nat) (a0 : Int) (a1 : Int) (a2 : Int) : Option (Bool) := (lombardlaw02_alive.f k).bind fun t141 => (if t141 = true then (if a0 = (-9223372036854775808) then (lombardlaw02_WideTurns.j0 k a0 a1 a2 true) else (lombardlaw02_WideTurns.j0 k a0 a1 a2 (a2 == 0))) else (some false))
theorem lombardlaw02_WideTurns.mono_l : ∀ k, (∀ y0 y1 y2 y3, LeO (lombardlaw02_WideTurns.j0 k y0 y1 y2 y3) (lombardlaw02_WideTurns.j0 (k + 1) y0 y1 y2 y3)) ∧ (∀ y0 y1 y2 y3, LeO (lombardlaw02_WideTurns.j1 k y0 y1 y2 y3) (lombardlaw02_WideTurns.j1 (k + 1) y0 y1 y2 y3))
  | 0 => ⟨fun _ _ _ _ r h => by simp [lombardlaw02_WideTurns.j0] at h, fun _ _ _ _ r h => by simp [lombardlaw02_WideTurns.j1] at h⟩
  | k + 1 => by
    obtain ⟨ih0, ih1⟩ := lombardlaw02_WideTurns.mono_l k
    refine ⟨?_, ?_⟩
    · intro y0 y1 y2 y3
      unfold lombardlaw02_WideTurns.j0
      repeat' first
      | (with_reducible exact ih0 _ _ _ _)
      | (with_reducible exact ih1 _ _ _ _)
      | (with_reducible exact lombardlaw02_alive.mono _)
      | (with_reducible exact wide_MulDiv.mono _ _ _ _ _)
      | (with_reducible exact LeO.refl _)
      | (with_reducible exact LeO.none _)
      | (with_reducible refine LeO.ite ?_ ?_)
      | (with_reducible refine LeO.bind ?_ (fun _ => ?_))
      | exact ih0 _ _ _ _
      | exact ih1 _ _ _ _
      | exact lombardlaw02_alive.mono _
      | exact wide_MulDiv.mono _ _ _ _ _
      | exact LeO.none _
      | refine LeO.ite ?_ ?_
      | refine LeO.bind ?_ (fun _ => ?_)
    · intro y0 y1 y2 y3
      unfold lombardlaw02_WideTurns.j1
      repeat' first
      | (with_reducible exact ih0 _ _ _ _)
      | (with_reducible exact ih1 _ _ _ _)
      | (with_reducible exact lombardlaw02_alive.mono _)
      | (with_reducible exact wide_MulDiv.mono _ _ _ _ _)
      | (with_reducible exact LeO.refl _)
      | (with_reducible exact LeO.none _)
      | (with_reducible refine LeO.ite ?_ ?_)
      | (with_reducible refine LeO.bind ?_ (fun _ => ?_))
      | exact ih0 _ _ _ _
      | exact ih1 _ _ _ _
      | exact lombardlaw02_alive.mono _
      | exact wide_MulDiv.mono _ _ _ _ _
      | exact LeO.none _
      | refine LeO.ite ?_ ?_
      | refine LeO.bind ?_ (fun _ => ?_)
theorem lombardlaw02_WideTurns.mono : ∀ a0 a1 a2 k, LeO (lombardlaw02_WideTurns.f k a0 a1 a2) (lombardlaw02_WideTurns.f (k + 1) a0 a1 a2) := by
  intro a0 a1 a2 k
  obtain ⟨ih0, ih1⟩ := lombardlaw02_WideTurns.mono_l k
  unfold lombardlaw02_WideTurns.f
  repeat' first
      | (with_reducible exact ih0 _ _ _ _)
      | (with_reducible exact ih1 _ _ _ _)
      | (with_reducible exact lombardlaw02_alive.mono _)
      | (with_reducible exact wide_MulDiv.mono _ _ _ _ _)
      | (with_reducible exact LeO.refl _)
      | (with_reducible exact LeO.none _)
      | (with_reducible refine LeO.ite ?_ ?_)
      | (with_reducible refine LeO.bind ?_ (fun _ => ?_))
      | exact ih0 _ _ _ _
      | exact ih1 _ _ _ _
      | exact lombardlaw02_alive.mono _
      | exact wide_MulDiv.mono _ _ _ _ _
      | exact LeO.none _
      | refine LeO.ite ?_ ?_
      | refine LeO.bind ?_ (fun _ => ?_)
set_option maxHeartbeats 8000000 in
set_option maxRecDepth 100000 in
theorem lombardlaw02_WideTurns.calls (k : Nat) (a0 : Int) (a1 : Int) (a2 : Int) (r : Bool) (w : World) (h : lombardlaw02_WideTurns.f k a0 a1 a2 = some r) :
    Calls Try.prog 4 #[.int .i64 a0, .int .i64 a1, .int .i64 a2] w fun e w' => e = .returned (.bool r) ∧ Below w.heap.size w w' := by
  have HB := Aside0.mk (Below.refl w.heap.size w)
  have H : ((lombardlaw02_alive.f k).bind fun t141 => (if t141 = true then (if a0 = (-9223372036854775808) then (lombardlaw02_WideTurns.j0 k a0 a1 a2 true) else (lombardlaw02_WideTurns.j0 k a0 a1 a2 (a2 == 0))) else (some false))) = some r := h
  clear h
  replace H := Option.bind_eq_some_iff.mp H
  obtain ⟨t141, A40, H⟩ := H
  replace H : (if t141 = true then (if a0 = (-9223372036854775808) then (lombardlaw02_WideTurns.j0 k a0 a1 a2 true) else (lombardlaw02_WideTurns.j0 k a0 a1 a2 (a2 == 0))) else (some false)) = some r := H
  have A4 := Aside0.mk A40
  clear A40
  by_cases c5 : t141 = true
  · subst c5
    have H1 : (if a0 = (-9223372036854775808) then (lombardlaw02_WideTurns.j0 k a0 a1 a2 true) else (lombardlaw02_WideTurns.j0 k a0 a1 a2 (a2 == 0))) = some r := by rw [if_pos rfl] at H; exact H
    clear H
    have H := H1
    clear H1
    have HC6 := Aside0.mk H
    clear H
    go_enter Try.func4, Try.ntmps4
    go_upto_region 3 with (first | ((with_reducible refine gate_callee (f := 15) rfl ?_); refine goesL_ (some 15) rfl rfl Try.func15 (by kernel_rfl) rfl #[] rfl (by (try simp only [List.map_toArray, List.map_cons, List.map_nil]); first | done | rfl | (simp only [List.length_drop, List.length_take]; rfl)) ?_; (with_reducible refine (lombardlaw02_alive.calls k  true _ A4.out).mono ?_); rintro e w7 ⟨rfl, hb⟩; refine ⟨_, rfl, ?_⟩; have n0_ := Aside0.mk (below_step (by repeat (first | (with_reducible first | exact HB.out | apply below_alloc | apply pw_below_drewN | apply below_drew1) | exact HB.out)) hb); clear HB; have HB := n0_; clear n0_; (try clear hb); (try clear hb2); (try clear hk); (try clear hi)))
    (try simp only [Act.put, List.setIfInBounds_toArray, List.set_cons_zero, List.set_cons_succ])
    go_cut [22] (fun v22 wc => ∃ (kq : Nat) (x22_5 : Bool), v22 = .bool x22_5 ∧ Aside0 (lombardlaw02_WideTurns.j0 kq a0 a1 a2 x22_5 = some r) ∧ Aside0 (kq ≤ k) ∧ Aside0 (Below w.heap.size w wc))
    case first =>
      have H := HC6.out
      clear HC6
      by_cases c8 : a0 = (-9223372036854775808)
      · rw [if_pos c8] at H
        have c8b0 : (a0 == (-9223372036854775808)) = true := beq_iff_eq.mpr c8
        have c8b1 : (a0 != (-9223372036854775808)) = false := bne_eq_false_iff_eq.mpr c8
        clear c8
        (first | rw [c8b0] | (simp only [i64_w, i32_w]; rw [c8b0]) | skip)
        have H' := Aside0.mk H
        clear H
        go_wp2
        go_meet
        case rel => exact ⟨_, (true), (by first | rfl | (simp; done) | (simp [*]; done)), H', ⟨by first | omega | exact Nat.le_refl _⟩, ⟨by repeat (first | (with_reducible first | exact HB.out | apply below_alloc | apply pw_below_drewN | apply below_drew1) | exact HB.out)⟩⟩
      · rw [if_neg c8] at H
        have c8b0 : (a0 == (-9223372036854775808)) = false := beq_eq_false_iff_ne.mpr c8
        have c8b1 : (a0 != (-9223372036854775808)) = true := bne_iff_ne.mpr c8
        (first | rw [c8b0] | (simp only [i64_w, i32_w]; rw [c8b0]) | skip)
        have H' := Aside0.mk H
        clear H
        go_wp2
        go_meet
        case rel => exact ⟨_, ((a2 == 0)), (by first | rfl | (simp; done) | (simp [*]; done)), H', ⟨by first | omega | exact Nat.le_refl _⟩, ⟨by repeat (first | (with_reducible first | exact HB.out | apply below_alloc | apply pw_below_drewN | apply below_drew1) | exact HB.out)⟩⟩
    case rest =>
      clear HC6
      try clear c1
      try clear p2
      try clear c4
      try clear c5
      try clear c8
      try clear c8b0
      try clear c8b1
      obtain ⟨kq, x22_5, rfl, HA, HJ5, HB⟩ := hcut
      cases kq with
      | zero => exact absurd HA.out (by simp [lombardlaw02_WideTurns.j0])
      | succ kj5 =>
        have H := HA.out
        clear HA
        simp only [lombardlaw02_WideTurns.j0] at H
        by_cases c9 : x22_5 = true
        · subst c9
          have H1 : (some true) = some r := by rw [if_pos rfl] at H; exact H
          clear H
          have H := H1
          clear H1
          obtain rfl := Option.some.inj H
          go_wp2
          go_ret
          exact ⟨by first | rfl | (simp [errW_none, errW_some] <;> rfl) | (simp [*, errW_none, errW_some] <;> rfl), by repeat (first | (with_reducible first | exact HB.out | apply below_alloc | apply pw_below_drewN | apply below_drew1) | exact HB.out)⟩
        · replace c9 := Bool.eq_false_iff.mpr c9
          subst c9
          have H1 : ((wide_MulDiv.f kj5 a0 a1 a2 1).bind fun bt142 => ((wide_MulDiv.f kj5 (wrap64 (-a0)) a1 a2 1).bind fun bt144 => (if bt142.2 = 0 then (if bt144.2 = 0 then (lombardlaw02_WideTurns.j1 kj5 a0 a1 a2 (bt144.1 != (wrap64 (-bt142.1)))) else (lombardlaw02_WideTurns.j1 kj5 a0 a1 a2 false)) else (lombardlaw02_WideTurns.j1 kj5 a0 a1 a2 false)))) = some r := by rw [if_neg (show ¬ (false = true) by decide)] at H; exact H
          clear H
          have H := H1
          clear H1
          replace H := Option.bind_eq_some_iff.mp H
          obtain ⟨⟨t142, t143⟩, A100, H⟩ := H
          replace H : ((wide_MulDiv.f kj5 (wrap64 (-a0)) a1 a2 1).bind fun bt144 => (if t143 = 0 then (if bt144.2 = 0 then (lombardlaw02_WideTurns.j1 kj5 a0 a1 a2 (bt144.1 != (wrap64 (-t142)))) else (lombardlaw02_WideTurns.j1 kj5 a0 a1 a2 false)) else (lombardlaw02_WideTurns.j1 kj5 a0 a1 a2 false))) = some r := H
          have A10 := Aside0.mk A100
          clear A100
          replace H := Option.bind_eq_some_iff.mp H
          obtain ⟨⟨t144, t145⟩, A110, H⟩ := H
          replace H : (if t143 = 0 then (if t145 = 0 then (lombardlaw02_WideTurns.j1 kj5 a0 a1 a2 (t144 != (wrap64 (-t142)))) else (lombardlaw02_WideTurns.j1 kj5 a0 a1 a2 false)) else (lombardlaw02_WideTurns.j1 kj5 a0 a1 a2 false)) = some r := H
          have A11 := Aside0.mk A110
          clear A110
          have HC12 := Aside0.mk H
          clear H
          go_upto_region 7 with (first | ((with_reducible refine gate_callee (f := 18) rfl ?_); refine goesL_ (some 27) rfl rfl Try.func18 (by kernel_rfl) rfl #[.int .i64 a0, .int .i64 a1, .int .i64 a2, .int .i64 1] rfl (by (try simp only [List.map_toArray, List.map_cons, List.map_nil]); first | done | rfl | (simp only [List.length_drop, List.length_take]; rfl)) ?_; (with_reducible refine (wide_MulDiv.calls kj5 a0 a1 a2 1 t142 t143 _ A10.out).mono ?_); rintro e w13 ⟨rfl, hb⟩; refine ⟨_, rfl, ?_⟩; have n0_ := Aside0.mk (below_step (by repeat (first | (with_reducible first | exact HB.out | apply below_alloc | apply pw_below_drewN | apply below_drew1) | exact HB.out)) hb); clear HB; have HB := n0_; clear n0_; (try clear hb); (try clear hb2); (try clear hk); (try clear hi)) | ((with_reducible refine gate_callee (f := 18) rfl ?_); refine goesL_ (some 35) rfl rfl Try.func18 (by kernel_rfl) rfl #[.int .i64 (wrap64 (-a0)), .int .i64 a1, .int .i64 a2, .int .i64 1] rfl (by (try simp only [List.map_toArray, List.map_cons, List.map_nil]); first | done | rfl | (simp only [List.length_drop, List.length_take]; rfl)) ?_; (with_reducible refine (wide_MulDiv.calls kj5 (wrap64 (-a0)) a1 a2 1 t144 t145 _ A11.out).mono ?_); rintro e w14 ⟨rfl, hb⟩; refine ⟨_, rfl, ?_⟩; have n0_ := Aside0.mk (below_step (by repeat (first | (with_reducible first | exact HB.out | apply below_alloc | apply pw_below_drewN | apply below_drew1) | exact HB.out)) hb); clear HB; have HB := n0_; clear n0_; (try clear hb); (try clear hb2); (try clear hk); (try clear hi)))
          (try simp only [Act.put, List.setIfInBounds_toArray, List.set_cons_zero, List.set_cons_succ])
          go_cut [49] (fun v49 wc => ∃ (kq : Nat) (x49_11 : Bool), v49 = .bool x49_11 ∧ Aside0 (lombardlaw02_WideTurns.j1 kq a0 a1 a2 x49_11 = some r) ∧ Aside0 (kq ≤ kj5) ∧ Aside0 (Below w.heap.size w wc))
          case first =>
            have H := HC12.out
            clear HC12
            by_cases c15 : t143 = 0
            · rw [if_pos c15] at H
              have c15b0 : (t143 == 0) = true := beq_iff_eq.mpr c15
              have c15b1 : (t143 != 0) = false := bne_eq_false_iff_eq.mpr c15
              clear c15
              (first | rw [c15b0] | (simp only [i64_w, i32_w]; rw [c15b0]) | skip)
              by_cases c16 : t145 = 0
              · rw [if_pos c16] at H
                have c16b0 : (t145 == 0) = true := beq_iff_eq.mpr c16
                have c16b1 : (t145 != 0) = false := bne_eq_false_iff_eq.mpr c16
                clear c16
                have H' := Aside0.mk H
                clear H
                go_wp2
                go_meet
                case rel => exact ⟨_, ((t144 != (wrap64 (-t142)))), (by first | rfl | (simp; done) | (simp [*]; done)), H', ⟨by have := HJ5.out; first | omega | exact Nat.le_refl _⟩, ⟨by repeat (first | (with_reducible first | exact HB.out | apply below_alloc | apply pw_below_drewN | apply below_drew1) | exact HB.out)⟩⟩
              · rw [if_neg c16] at H
                have c16b0 : (t145 == 0) = false := beq_eq_false_iff_ne.mpr c16
                have c16b1 : (t145 != 0) = true := bne_iff_ne.mpr c16
                have H' := Aside0.mk H
                clear H
                go_wp2
                go_meet
                case rel => exact ⟨_, (false), (by first | rfl | (simp; done) | (simp [*]; done)), H', ⟨by have := HJ5.out; first | omega | exact Nat.le_refl _⟩, ⟨by repeat (first | (with_reducible first | exact HB.out | apply below_alloc | apply pw_below_drewN | apply below_drew1) | exact HB.out)⟩⟩
            · rw [if_neg c15] at H
              have c15b0 : (t143 == 0) = false := beq_eq_false_iff_ne.mpr c15
              have c15b1 : (t143 != 0) = true := bne_iff_ne.mpr c15
              (first | rw [c15b0] | (simp only [i64_w, i32_w]; rw [c15b0]) | skip)
              have H' := Aside0.mk H
              clear H
              go_wp2
              go_meet
              case rel => exact ⟨_, (false), (by first | rfl | (simp; done) | (simp [*]; done)), H', ⟨by have := HJ5.out; first | omega | exact Nat.le_refl _⟩, ⟨by repeat (first | (with_reducible first | exact HB.out | apply below_alloc | apply pw_below_drewN | apply below_drew1) | exact HB.out)⟩⟩
          case rest =>
            clear HC12
            try clear c1
            try clear p2
            try clear c4
            try clear c5
            try clear p6
            try clear c8
            try clear c8b0
            try clear c8b1
            try clear c9
            try clear c15
            try clear c15b0
            try clear c15b1
            try clear c16
            try clear c16b0
            try clear c16b1
            try clear p2
            obtain ⟨kq, x49_11, rfl, HA, HJ11, HB⟩ := hcut
            cases kq with
            | zero => exact absurd HA.out (by simp [lombardlaw02_WideTurns.j1])
            | succ kj11 =>
              have H := HA.out
              clear HA
              simp only [lombardlaw02_WideTurns.j1] at H
              by_cases c17 : x49_11 = true
              · subst c17
                have H1 : (some false) = some r := by rw [if_pos rfl] at H; exact H
                clear H
                have H := H1
                clear H1
                obtain rfl := Option.some.inj H
                go_wp2
                go_ret
                exact ⟨by first | rfl | (simp [errW_none, errW_some] <;> rfl) | (simp [*, errW_none, errW_some] <;> rfl), by repeat (first | (with_reducible first | exact HB.out | apply below_alloc | apply pw_below_drewN | apply below_drew1) | exact HB.out)⟩
              · replace c17 := Bool.eq_false_iff.mpr c17
                subst c17
                have H1 : ((wide_MulDiv.f kj11 a0 a1 a2 0).bind fun bt146 => ((wide_MulDiv.f kj11 (wrap64 (-a0)) a1 a2 0).bind fun bt148 => (if bt146.2 = 0 then (if bt148.2 = 0 then (if bt146.1 = (-9223372036854775808) then (some true) else (if bt148.1 = (wrap64 (-bt146.1)) then (some true) else (some (bt148.1 == (wrap64 ((wrap64 (-bt146.1)) - 1)))))) else (some true)) else (some true)))) = some r := by rw [if_neg (show ¬ (false = true) by decide)] at H; exact H
                clear H
                have H := H1
                clear H1
                replace H := Option.bind_eq_some_iff.mp H
                obtain ⟨⟨t146, t147⟩, A180, H⟩ := H
                replace H : ((wide_MulDiv.f kj11 (wrap64 (-a0)) a1 a2 0).bind fun bt148 => (if t147 = 0 then (if bt148.2 = 0 then (if t146 = (-9223372036854775808) then (some true) else (if bt148.1 = (wrap64 (-t146)) then (some true) else (some (bt148.1 == (wrap64 ((wrap64 (-t146)) - 1)))))) else (some true)) else (some true))) = some r := H
                have A18 := Aside0.mk A180
                clear A180
                replace H := Option.bind_eq_some_iff.mp H
                obtain ⟨⟨t148, t149⟩, A190, H⟩ := H
                replace H : (if t147 = 0 then (if t149 = 0 then (if t146 = (-9223372036854775808) then (some true) else (if t148 = (wrap64 (-t146)) then (some true) else (some (t148 == (wrap64 ((wrap64 (-t146)) - 1)))))) else (some true)) else (some true)) = some r := H
                have A19 := Aside0.mk A190
                clear A190
                have HC20 := Aside0.mk H
                clear H
                go_upto_region 11 with (first | ((with_reducible refine gate_callee (f := 18) rfl ?_); refine goesL_ (some 54) rfl rfl Try.func18 (by kernel_rfl) rfl #[.int .i64 a0, .int .i64 a1, .int .i64 a2, .int .i64 0] rfl (by (try simp only [List.map_toArray, List.map_cons, List.map_nil]); first | done | rfl | (simp only [List.length_drop, List.length_take]; rfl)) ?_; (with_reducible refine (wide_MulDiv.calls kj11 a0 a1 a2 0 t146 t147 _ A18.out).mono ?_); rintro e w21 ⟨rfl, hb⟩; refine ⟨_, rfl, ?_⟩; have n0_ := Aside0.mk (below_step (by repeat (first | (with_reducible first | exact HB.out | apply below_alloc | apply pw_below_drewN | apply below_drew1) | exact HB.out)) hb); clear HB; have HB := n0_; clear n0_; (try clear hb); (try clear hb2); (try clear hk); (try clear hi)) | ((with_reducible refine gate_callee (f := 18) rfl ?_); refine goesL_ (some 62) rfl rfl Try.func18 (by kernel_rfl) rfl #[.int .i64 (wrap64 (-a0)), .int .i64 a1, .int .i64 a2, .int .i64 0] rfl (by (try simp only [List.map_toArray, List.map_cons, List.map_nil]); first | done | rfl | (simp only [List.length_drop, List.length_take]; rfl)) ?_; (with_reducible refine (wide_MulDiv.calls kj11 (wrap64 (-a0)) a1 a2 0 t148 t149 _ A19.out).mono ?_); rintro e w22 ⟨rfl, hb⟩; refine ⟨_, rfl, ?_⟩; have n0_ := Aside0.mk (below_step (by repeat (first | (with_reducible first | exact HB.out | apply below_alloc | apply pw_below_drewN | apply below_drew1) | exact HB.out)) hb); clear HB; have HB := n0_; clear n0_; (try clear hb); (try clear hb2); (try clear hk); (try clear hi)))
                have H := HC20.out
                clear HC20
                by_cases c23 : t147 = 0
                · rw [if_pos c23] at H
                  have c23b0 : (t147 == 0) = true := beq_iff_eq.mpr c23
                  have c23b1 : (t147 != 0) = false := bne_eq_false_iff_eq.mpr c23
                  clear c23
                  by_cases c24 : t149 = 0
                  · rw [if_pos c24] at H
                    have c24b0 : (t149 == 0) = true := beq_iff_eq.mpr c24
                    have c24b1 : (t149 != 0) = false := bne_eq_false_iff_eq.mpr c24
                    clear c24
                    by_cases c25 : t146 = (-9223372036854775808)
                    · rw [if_pos c25] at H
                      have c25b0 : (t146 == (-9223372036854775808)) = true := beq_iff_eq.mpr c25
                      have c25b1 : (t146 != (-9223372036854775808)) = false := bne_eq_false_iff_eq.mpr c25
                      clear c25
                      obtain rfl := Option.some.inj H
                      go_wp2
                      go_ret
                      exact ⟨by first | rfl | (simp [errW_none, errW_some] <;> rfl) | (simp [*, errW_none, errW_some] <;> rfl), by repeat (first | (with_reducible first | exact HB.out | apply below_alloc | apply pw_below_drewN | apply below_drew1) | exact HB.out)⟩
                    · rw [if_neg c25] at H
                      have c25b0 : (t146 == (-9223372036854775808)) = false := beq_eq_false_iff_ne.mpr c25
                      have c25b1 : (t146 != (-9223372036854775808)) = true := bne_iff_ne.mpr c25
                      by_cases c26 : t148 = (wrap64 (-t146))
                      · rw [if_pos c26] at H
                        have c26b0 : (t148 == (wrap64 (-t146))) = true := beq_iff_eq.mpr c26
                        have c26b1 : (t148 != (wrap64 (-t146))) = false := bne_eq_false_iff_eq.mpr c26
                        clear c26
                        obtain rfl := Option.some.inj H
                        go_wp2
                        go_ret
                        exact ⟨by first | rfl | (simp [errW_none, errW_some] <;> rfl) | (simp [*, errW_none, errW_some] <;> rfl), by repeat (first | (with_reducible first | exact HB.out | apply below_alloc | apply pw_below_drewN | apply below_drew1) | exact HB.out)⟩
                      · rw [if_neg c26] at H
                        have c26b0 : (t148 == (wrap64 (-t146))) = false := beq_eq_false_iff_ne.mpr c26
                        have c26b1 : (t148 != (wrap64 (-t146))) = true := bne_iff_ne.mpr c26
                        obtain rfl := Option.some.inj H
                        go_wp2
                        go_ret
                        exact ⟨by first | rfl | (simp [errW_none, errW_some] <;> rfl) | (simp [*, errW_none, errW_some] <;> rfl), by repeat (first | (with_reducible first | exact HB.out | apply below_alloc | apply pw_below_drewN | apply below_drew1) | exact HB.out)⟩
                  · rw [if_neg c24] at H
                    have c24b0 : (t149 == 0) = false := beq_eq_false_iff_ne.mpr c24
                    have c24b1 : (t149 != 0) = true := bne_iff_ne.mpr c24
                    obtain rfl := Option.some.inj H
                    go_wp2
                    go_ret
                    exact ⟨by first | rfl | (simp [errW_none, errW_some] <;> rfl) | (simp [*, errW_none, errW_some] <;> rfl), by repeat (first | (with_reducible first | exact HB.out | apply below_alloc | apply pw_below_drewN | apply below_drew1) | exact HB.out)⟩
                · rw [if_neg c23] at H
                  have c23b0 : (t147 == 0) = false := beq_eq_false_iff_ne.mpr c23
                  have c23b1 : (t147 != 0) = true := bne_iff_ne.mpr c23
                  obtain rfl := Option.some.inj H
                  go_wp2
                  go_ret
                  exact ⟨by first | rfl | (simp [errW_none, errW_some] <;> rfl) | (simp [*, errW_none, errW_some] <;> rfl), by repeat (first | (with_reducible first | exact HB.out | apply below_alloc | apply pw_below_drewN | apply below_drew1) | exact HB.out)⟩
  · replace c5 := Bool.eq_false_iff.mpr c5
    subst c5
    have H1 : (some false) = some r := by rw [if_neg (show ¬ (false = true) by decide)] at H; exact H
    clear H
    have H := H1
    clear H1
    obtain rfl := Option.some.inj H
    go_enter Try.func4, Try.ntmps4
    go_wp2_with (first | ((with_reducible refine gate_callee (f := 15) rfl ?_); refine goesL_ (some 15) rfl rfl Try.func15 (by kernel_rfl) rfl #[] rfl (by (try simp only [List.map_toArray, List.map_cons, List.map_nil]); first | done | rfl | (simp only [List.length_drop, List.length_take]; rfl)) ?_; (with_reducible refine (lombardlaw02_alive.calls k  false _ A4.out).mono ?_); rintro e w27 ⟨rfl, hb⟩; refine ⟨_, rfl, ?_⟩; have n0_ := Aside0.mk (below_step (by repeat (first | (with_reducible first | exact HB.out | apply below_alloc | apply pw_below_drewN | apply below_drew1) | exact HB.out)) hb); clear HB; have HB := n0_; clear n0_; (try clear hb); (try clear hb2); (try clear hk); (try clear hi)))
    go_ret
    exact ⟨by first | rfl | (simp [errW_none, errW_some] <;> rfl) | (simp [*, errW_none, errW_some] <;> rfl), by repeat (first | (with_reducible first | exact HB.out | apply below_alloc | apply pw_below_drewN | apply below_drew1) | exact HB.out)⟩

/-- THE ONE PURE STATEMENT of lombardlaw02_WideTurns: yours. -/
def lombardlaw02_WideTurns.Pure : Prop := ∀ (a0 : Int) (a1 : Int) (a2 : Int), (Lit.int .i64 a0).wf = true → (Lit.int .i64 a1).wf = true → (Lit.int .i64 a2).wf = true → ∃ k, lombardlaw02_WideTurns.f k a0 a1 a2 = some true
theorem lombardlaw02_WideTurns.walk (P : lombardlaw02_WideTurns.Pure) (a0 : Int) (a1 : Int) (a2 : Int) (w : World) (w0 : (Lit.int .i64 a0).wf = true) (w1 : (Lit.int .i64 a1).wf = true) (w2 : (Lit.int .i64 a2).wf = true) :
    Calls Try.prog 4 #[.int .i64 a0, .int .i64 a1, .int .i64 a2] w fun e w' => e = .returned (.bool true) ∧ Below w.heap.size w w' := by
  obtain ⟨k, h⟩ := P a0 a1 a2 w0 w1 w2
  refine (lombardlaw02_WideTurns.calls k a0 a1 a2 true w h).mono ?_
  rintro e w' ⟨rfl, hd⟩
  exact ⟨rfl, hd⟩

end Go.Proofs.Ytohbdjfabghagaa.S
