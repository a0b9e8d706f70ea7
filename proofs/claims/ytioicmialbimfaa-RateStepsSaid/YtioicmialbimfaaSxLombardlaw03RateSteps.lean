/- Printed by a program of this session out of the translation: what each function called here computes, and that its call comes to just that. Conditions: none beyond those that each theorem names. -/
import Derived.Test.YtioicmialbimfaaSx0
import Derived.Test.YtioicmialbimfaaSxRateInterest
import Derived.Test.YtioicmialbimfaaSxRateGrow
import Derived.Test.YtioicmialbimfaaSxRatePower
import Derived.Test.YtioicmialbimfaaSxLombardlaw03Alive
namespace Go.Proofs.Ytioicmialbimfaa.S
open Go.RowKit Go.Proofs.YtioicmialbimfaaW.PrintWords Go.Proofs.YtioicmialbimfaaW.PrintLast Go.Proofs.YtioicmialbimfaaW.PrintMore
attribute [local go_sem] max2_int min2_int max_two min_two max_three min_three max_four min_four   -- for this text's walks alone
attribute [local go_sem] Go.Proofs.Ytioicmialbimfaa.XWalk.cell2
set_option linter.unusedVariables false
set_option linter.unusedSimpArgs false

/-! ### lombardlaw03_RateSteps: function 6 -/
def lombardlaw03_RateSteps.j0 : Nat → Int → Int → Option (Bool)
  | 0, _, _ => none
  | k + 1, x0, x2 => (rate_Interest.f k x2 x0).bind fun bt221 => ((rate_Grow.f k x2 x0).bind fun bt223 => (if bt221.2 = 0 then (if bt223.2 = 0 then (if (wrap64 ((wrap64 (bt223.1 - x2)) - bt221.1)) ≥ (-1) then (some (decide ((wrap64 ((wrap64 (bt223.1 - x2)) - bt221.1)) ≤ 1))) else (some false)) else (some true)) else (some true)))
def lombardlaw03_RateSteps.f (k : Nat) (a0 : Int) (a1 : Int) (a2 : Int) : Option (Bool) := (lombardlaw03_alive.f k).bind fun t214 => (if t214 = true then ((rate_Power.f k a0 (wrap64 (a1))).bind fun bt215 => ((rate_Power.f k a0 (wrap64 ((wrap64 (a1)) + 1))).bind fun bt217 => (if bt215.2 = 0 then ((rate_Grow.f k bt215.1 a0).bind fun bt219 => (if bt217.1 = bt219.1 then (if bt217.2 = bt219.2 then (lombardlaw03_RateSteps.j0 k a0 a2) else (some false)) else (some false))) else (if bt217.2 = bt215.2 then (lombardlaw03_RateSteps.j0 k a0 a2) else (some false))))) else (some false))
theorem lombardlaw03_RateSteps.mono_l : ∀ k, (∀ y0 y1, LeO (lombardlaw03_RateSteps.j0 k y0 y1) (lombardlaw03_RateSteps.j0 (k + 1) y0 y1))
  | 0 => fun _ _ r h => by simp [lombardlaw03_RateSteps.j0] at h
  | k + 1 => by
    have ih0 := lombardlaw03_RateSteps.mono_l k
    · intro y0 y1
      unfold lombardlaw03_RateSteps.j0
      repeat' first
      | (with_reducible exact ih0 _ _)
      | (with_reducible exact lombardlaw03_alive.mono _)
      | (with_reducible exact rate_Grow.mono _ _ _)
      | (with_reducible exact rate_Interest.mono _ _ _)
      | (with_reducible exact rate_Power.mono _ _ _)
      | (with_reducible exact LeO.refl _)
      | (with_reducible exact LeO.none _)
      | (with_reducible refine LeO.ite ?_ ?_)
      | (with_reducible refine LeO.bind ?_ (fun _ => ?_))
      | exact ih0 _ _
      | exact lombardlaw03_alive.mono _
      | exact rate_Grow.mono _ _ _
      | exact rate_Interest.mono _ _ _
      | exact rate_Power.mono _ _ _
      | exact LeO.none _
      | refine LeO.ite ?_ ?_
      | refine LeO.bind ?_ (fun _ => ?_)
theorem lombardlaw03_RateSteps.mono : ∀ a0 a1 a2 k, LeO (lombardlaw03_RateSteps.f k a0 a1 a2) (lombardlaw03_RateSteps.f (k + 1) a0 a1 a2) := by
  intro a0 a1 a2 k
  have ih0 := lombardlaw03_RateSteps.mono_l k
  unfold lombardlaw03_RateSteps.f
  repeat' first
      | (with_reducible exact ih0 _ _)
      | (with_reducible exact lombardlaw03_alive.mono _)
      | (with_reducible exact rate_Grow.mono _ _ _)
      | (with_reducible exact rate_Interest.mono _ _ _)
      | (with_reducible exact rate_Power.mono _ _ _)
      | (with_reducible exact LeO.refl _)
      | (with_reducible exact LeO.none _)
      | (with_reducible refine LeO.ite ?_ ?_)
      | (with_reducible refine LeO.bind ?_ (fun _ => ?_))
      | exact ih0 _ _
      | exact lombardlaw03_alive.mono _
      | exact rate_Grow.mono _ _ _
      | exact rate_Interest.mono _ _ _
      | exact rate_Power.mono _ _ _
      | exact LeO.none _
      | refine LeO.ite ?_ ?_
      | refine LeO.bind ?_ (fun _ => ?_)
set_option maxHeartbeats 8000000 in
set_option maxRecDepth 100000 in
theorem lombardlaw03_RateSteps.calls (k : Nat) (a0 : Int) (a1 : Int) (a2 : Int) (r : Bool) (w : World) (h : lombardlaw03_RateSteps.f k a0 a1 a2 = some r) :
    Calls Try.prog 6 #[.int .i64 a0, .int .u8 a1, .int .i64 a2] w fun e w' => e = .returned (.bool r) ∧ Below w.heap.size w w' := by
  have HB := Aside0.mk (Below.refl w.heap.size w)
  have H : ((lombardlaw03_alive.f k).bind fun t214 => (if t214 = true then ((rate_Power.f k a0 (wrap64 (a1))).bind fun bt215 => ((rate_Power.f k a0 (wrap64 ((wrap64 (a1)) + 1))).bind fun bt217 => (if bt215.2 = 0 then ((rate_Grow.f k bt215.1 a0).bind fun bt219 => (if bt217.1 = bt219.1 then (if bt217.2 = bt219.2 then (lombardlaw03_RateSteps.j0 k a0 a2) else (some false)) else (some false))) else (if bt217.2 = bt215.2 then (lombardlaw03_RateSteps.j0 k a0 a2) else (some false))))) else (some false))) = some r := h
  clear h
  replace H := Option.bind_eq_some_iff.mp H
  obtain ⟨t214, A40, H⟩ := H
  replace H : (if t214 = true then ((rate_Power.f k a0 (wrap64 (a1))).bind fun bt215 => ((rate_Power.f k a0 (wrap64 ((wrap64 (a1)) + 1))).bind fun bt217 => (if bt215.2 = 0 then ((rate_Grow.f k bt215.1 a0).bind fun bt219 => (if bt217.1 = bt219.1 then (if bt217.2 = bt219.2 then (lombardlaw03_RateSteps.j0 k a0 a2) else (some false)) else (some false))) else (if bt217.2 = bt215.2 then (lombardlaw03_RateSteps.j0 k a0 a2) else (some false))))) else (some false)) = some r := H
  have A4 := Aside0.mk A40
  clear A40
  by_cases c5 : t214 = true
  · subst c5
    have H1 : ((rate_Power.f k a0 (wrap64 (a1))).bind fun bt215 => ((rate_Power.f k a0 (wrap64 ((wrap64 (a1)) + 1))).bind fun bt217 => (if bt215.2 = 0 then ((rate_Grow.f k bt215.1 a0).bind fun bt219 => (if bt217.1 = bt219.1 then (if bt217.2 = bt219.2 then (lombardlaw03_RateSteps.j0 k a0 a2) else (some false)) else (some false))) else (if bt217.2 = bt215.2 then (lombardlaw03_RateSteps.j0 k a0 a2) else (some false))))) = some r := by rw [if_pos rfl] at H; exact H
    clear H
    have H := H1
    clear H1
    replace H := Option.bind_eq_some_iff.mp H
    obtain ⟨⟨t215, t216⟩, A60, H⟩ := H
    replace H : ((rate_Power.f k a0 (wrap64 ((wrap64 (a1)) + 1))).bind fun bt217 => (if t216 = 0 then ((rate_Grow.f k t215 a0).bind fun bt219 => (if bt217.1 = bt219.1 then (if bt217.2 = bt219.2 then (lombardlaw03_RateSteps.j0 k a0 a2) else (some false)) else (some false))) else (if bt217.2 = t216 then (lombardlaw03_RateSteps.j0 k a0 a2) else (some false)))) = some r := H
    have A6 := Aside0.mk A60
    clear A60
    replace H := Option.bind_eq_some_iff.mp H
    obtain ⟨⟨t217, t218⟩, A70, H⟩ := H
    replace H : (if t216 = 0 then ((rate_Grow.f k t215 a0).bind fun bt219 => (if t217 = bt219.1 then (if t218 = bt219.2 then (lombardlaw03_RateSteps.j0 k a0 a2) else (some false)) else (some false))) else (if t218 = t216 then (lombardlaw03_RateSteps.j0 k a0 a2) else (some false))) = some r := H
    have A7 := Aside0.mk A70
    clear A70
    have HC8 := Aside0.mk H
    clear H
    go_enter Try.func6, Try.ntmps6
    go_upto_if 36 with (first | ((with_reducible refine gate_callee (f := 14) rfl ?_); refine goesL_ (some 18) rfl rfl Try.func14 (by kernel_rfl) rfl #[] rfl (by (try simp only [List.map_toArray, List.map_cons, List.map_nil]); first | done | rfl | (simp only [List.length_drop, List.length_take]; rfl)) ?_; (with_reducible refine (lombardlaw03_alive.calls k  true _ A4.out).mono ?_); rintro e w9 ⟨rfl, hb⟩; refine ⟨_, rfl, ?_⟩; have n0_ := Aside0.mk (below_step (by repeat (first | (with_reducible first | exact HB.out | apply below_alloc | apply pw_below_drewN | apply below_drew1) | exact HB.out)) hb); clear HB; have HB := n0_; clear n0_; (try clear hb); (try clear hb2); (try clear hk); (try clear hi)) | ((with_reducible refine gate_callee (f := 24) rfl ?_); refine goesL_ (some 24) rfl rfl Try.func24 (by kernel_rfl) rfl #[.int .i64 a0, .int .i64 (wrap64 (a1))] rfl (by (try simp only [List.map_toArray, List.map_cons, List.map_nil]); first | done | rfl | (simp only [List.length_drop, List.length_take]; rfl)) ?_; (with_reducible refine (rate_Power.calls k a0 (wrap64 (a1)) t215 t216 _ A6.out).mono ?_); rintro e w10 ⟨rfl, hb⟩; refine ⟨_, rfl, ?_⟩; have n0_ := Aside0.mk (below_step (by repeat (first | (with_reducible first | exact HB.out | apply below_alloc | apply pw_below_drewN | apply below_drew1) | exact HB.out)) hb); clear HB; have HB := n0_; clear n0_; (try clear hb); (try clear hb2); (try clear hk); (try clear hi)) | ((with_reducible refine gate_callee (f := 24) rfl ?_); refine goesL_ (some 32) rfl rfl Try.func24 (by kernel_rfl) rfl #[.int .i64 a0, .int .i64 (wrap64 ((wrap64 (a1)) + 1))] rfl (by (try simp only [List.map_toArray, List.map_cons, List.map_nil]); first | done | rfl | (simp only [List.length_drop, List.length_take]; rfl)) ?_; (with_reducible refine (rate_Power.calls k a0 (wrap64 ((wrap64 (a1)) + 1)) t217 t218 _ A7.out).mono ?_); rintro e w11 ⟨rfl, hb⟩; refine ⟨_, rfl, ?_⟩; have n0_ := Aside0.mk (below_step (by repeat (first | (with_reducible first | exact HB.out | apply below_alloc | apply pw_below_drewN | apply below_drew1) | exact HB.out)) hb); clear HB; have HB := n0_; clear n0_; (try clear hb); (try clear hb2); (try clear hk); (try clear hi)))
    (try simp only [Act.put, List.setIfInBounds_toArray, List.set_cons_zero, List.set_cons_succ])
    go_cut [] (fun wc => ∃ (kq : Nat), Aside0 (lombardlaw03_RateSteps.j0 kq a0 a2 = some r) ∧ Aside0 (kq ≤ k) ∧ Aside0 (Below w.heap.size w wc))
    case first =>
      have H := HC8.out
      clear HC8
      by_cases c12 : t216 = 0
      · rw [if_pos c12] at H
        have c12b0 : (t216 == 0) = true := beq_iff_eq.mpr c12
        have c12b1 : (t216 != 0) = false := bne_eq_false_iff_eq.mpr c12
        clear c12
        (first | rw [c12b0] | (simp only [i64_w, i32_w]; rw [c12b0]) | skip)
        replace H := Option.bind_eq_some_iff.mp H
        obtain ⟨⟨t219, t220⟩, A130, H⟩ := H
        replace H : (if t217 = t219 then (if t218 = t220 then (lombardlaw03_RateSteps.j0 k a0 a2) else (some false)) else (some false)) = some r := H
        have A13 := Aside0.mk A130
        clear A130
        have HC14 := Aside0.mk H
        clear H
        go_upto_region 7 with (first | ((with_reducible refine gate_callee (f := 17) rfl ?_); refine goesL_ (some 40) rfl rfl Try.func17 (by kernel_rfl) rfl #[.int .i64 t215, .int .i64 a0] rfl (by (try simp only [List.map_toArray, List.map_cons, List.map_nil]); first | done | rfl | (simp only [List.length_drop, List.length_take]; rfl)) ?_; (with_reducible refine (rate_Grow.calls k t215 a0 t219 t220 _ A13.out).mono ?_); rintro e w15 ⟨rfl, hb⟩; refine ⟨_, rfl, ?_⟩; have n0_ := Aside0.mk (below_step (by repeat (first | (with_reducible first | exact HB.out | apply below_alloc | apply pw_below_drewN | apply below_drew1) | exact HB.out)) hb); clear HB; have HB := n0_; clear n0_; (try clear hb); (try clear hb2); (try clear hk); (try clear hi)))
        have H := HC14.out
        clear HC14
        by_cases c16 : t217 = t219
        · rw [if_pos c16] at H
          have c16b0 : (t217 == t219) = true := beq_iff_eq.mpr c16
          have c16b1 : (t217 != t219) = false := bne_eq_false_iff_eq.mpr c16
          clear c16
          by_cases c17 : t218 = t220
          · rw [if_pos c17] at H
            have c17b0 : (t218 == t220) = true := beq_iff_eq.mpr c17
            have c17b1 : (t218 != t220) = false := bne_eq_false_iff_eq.mpr c17
            clear c17
            have H' := Aside0.mk H
            clear H
            go_wp2
            go_meet
            case rel => exact ⟨_, H', ⟨by first | omega | exact Nat.le_refl _⟩, ⟨by repeat (first | (with_reducible first | exact HB.out | apply below_alloc | apply pw_below_drewN | apply below_drew1) | exact HB.out)⟩⟩
          · rw [if_neg c17] at H
            have c17b0 : (t218 == t220) = false := beq_eq_false_iff_ne.mpr c17
            have c17b1 : (t218 != t220) = true := bne_iff_ne.mpr c17
            obtain rfl := Option.some.inj H
            go_wp2
            go_ret
            exact ⟨by first | rfl | (simp [errW_none, errW_some] <;> rfl) | (simp [*, errW_none, errW_some] <;> rfl), by repeat (first | (with_reducible first | exact HB.out | apply below_alloc | apply pw_below_drewN | apply below_drew1) | exact HB.out)⟩
        · rw [if_neg c16] at H
          have c16b0 : (t217 == t219) = false := beq_eq_false_iff_ne.mpr c16
          have c16b1 : (t217 != t219) = true := bne_iff_ne.mpr c16
          obtain rfl := Option.some.inj H
          go_wp2
          go_ret
          exact ⟨by first | rfl | (simp [errW_none, errW_some] <;> rfl) | (simp [*, errW_none, errW_some] <;> rfl), by repeat (first | (with_reducible first | exact HB.out | apply below_alloc | apply pw_below_drewN | apply below_drew1) | exact HB.out)⟩
      · rw [if_neg c12] at H
        have c12b0 : (t216 == 0) = false := beq_eq_false_iff_ne.mpr c12
        have c12b1 : (t216 != 0) = true := bne_iff_ne.mpr c12
        (first | rw [c12b0] | (simp only [i64_w, i32_w]; rw [c12b0]) | skip)
        by_cases c18 : t218 = t216
        · rw [if_pos c18] at H
          have c18b0 : (t218 == t216) = true := beq_iff_eq.mpr c18
          have c18b1 : (t218 != t216) = false := bne_eq_false_iff_eq.mpr c18
          clear c18
          have H' := Aside0.mk H
          clear H
          go_wp2
          go_meet
          case rel => exact ⟨_, H', ⟨by first | omega | exact Nat.le_refl _⟩, ⟨by repeat (first | (with_reducible first | exact HB.out | apply below_alloc | apply pw_below_drewN | apply below_drew1) | exact HB.out)⟩⟩
        · rw [if_neg c18] at H
          have c18b0 : (t218 == t216) = false := beq_eq_false_iff_ne.mpr c18
          have c18b1 : (t218 != t216) = true := bne_iff_ne.mpr c18
          obtain rfl := Option.some.inj H
          go_wp2
          go_ret
          exact ⟨by first | rfl | (simp [errW_none, errW_some] <;> rfl) | (simp [*, errW_none, errW_some] <;> rfl), by repeat (first | (with_reducible first | exact HB.out | apply below_alloc | apply pw_below_drewN | apply below_drew1) | exact HB.out)⟩
    case rest =>
      clear HC8
      try clear c1
      try clear c2
      try clear p2
      try clear c5
      try clear c6
      try clear p6
      try clear c12
      try clear c12b0
      try clear c12b1
      try clear c14
      try clear c16
      try clear c16b0
      try clear c16b1
      try clear c17
      try clear c17b0
      try clear c17b1
      try clear c18
      try clear c18b0
      try clear c18b1
      obtain ⟨kq, HA, HJ7, HB⟩ := hcut
      cases kq with
      | zero => exact absurd HA.out (by simp [lombardlaw03_RateSteps.j0])
      | succ kj7 =>
        have H := HA.out
        clear HA
        simp only [lombardlaw03_RateSteps.j0] at H
        replace H := Option.bind_eq_some_iff.mp H
        obtain ⟨⟨t221, t222⟩, A190, H⟩ := H
        replace H : ((rate_Grow.f kj7 a2 a0).bind fun bt223 => (if t222 = 0 then (if bt223.2 = 0 then (if (wrap64 ((wrap64 (bt223.1 - a2)) - t221)) ≥ (-1) then (some (decide ((wrap64 ((wrap64 (bt223.1 - a2)) - t221)) ≤ 1))) else (some false)) else (some true)) else (some true))) = some r := H
        have A19 := Aside0.mk A190
        clear A190
        replace H := Option.bind_eq_some_iff.mp H
        obtain ⟨⟨t223, t224⟩, A200, H⟩ := H
        replace H : (if t222 = 0 then (if t224 = 0 then (if (wrap64 ((wrap64 (t223 - a2)) - t221)) ≥ (-1) then (some (decide ((wrap64 ((wrap64 (t223 - a2)) - t221)) ≤ 1))) else (some false)) else (some true)) else (some true)) = some r := H
        have A20 := Aside0.mk A200
        clear A200
        have HC21 := Aside0.mk H
        clear H
        go_upto_region 13 with (first | ((with_reducible refine gate_callee (f := 15) rfl ?_); refine goesL_ (some 57) rfl rfl Try.func15 (by kernel_rfl) rfl #[.int .i64 a2, .int .i64 a0] rfl (by (try simp only [List.map_toArray, List.map_cons, List.map_nil]); first | done | rfl | (simp only [List.length_drop, List.length_take]; rfl)) ?_; (with_reducible refine (rate_Interest.calls kj7 a2 a0 t221 t222 _ A19.out).mono ?_); rintro e w22 ⟨rfl, hb⟩; refine ⟨_, rfl, ?_⟩; have n0_ := Aside0.mk (below_step (by repeat (first | (with_reducible first | exact HB.out | apply below_alloc | apply pw_below_drewN | apply below_drew1) | exact HB.out)) hb); clear HB; have HB := n0_; clear n0_; (try clear hb); (try clear hb2); (try clear hk); (try clear hi)) | ((with_reducible refine gate_callee (f := 17) rfl ?_); refine goesL_ (some 63) rfl rfl Try.func17 (by kernel_rfl) rfl #[.int .i64 a2, .int .i64 a0] rfl (by (try simp only [List.map_toArray, List.map_cons, List.map_nil]); first | done | rfl | (simp only [List.length_drop, List.length_take]; rfl)) ?_; (with_reducible refine (rate_Grow.calls kj7 a2 a0 t223 t224 _ A20.out).mono ?_); rintro e w23 ⟨rfl, hb⟩; refine ⟨_, rfl, ?_⟩; have n0_ := Aside0.mk (below_step (by repeat (first | (with_reducible first | exact HB.out | apply below_alloc | apply pw_below_drewN | apply below_drew1) | exact HB.out)) hb); clear HB; have HB := n0_; clear n0_; (try clear hb); (try clear hb2); (try clear hk); (try clear hi)))
        have H := HC21.out
        clear HC21
        by_cases c24 : t222 = 0
        · rw [if_pos c24] at H
          have c24b0 : (t222 == 0) = true := beq_iff_eq.mpr c24
          have c24b1 : (t222 != 0) = false := bne_eq_false_iff_eq.mpr c24
          clear c24
          by_cases c25 : t224 = 0
          · rw [if_pos c25] at H
            have c25b0 : (t224 == 0) = true := beq_iff_eq.mpr c25
            have c25b1 : (t224 != 0) = false := bne_eq_false_iff_eq.mpr c25
            clear c25
            by_cases c26 : (wrap64 ((wrap64 (t223 - a2)) - t221)) ≥ (-1)
            · rw [if_pos c26] at H
              have c26b0 : decide ((-1) ≤ (wrap64 ((wrap64 (t223 - a2)) - t221))) = true := decide_eq_true c26
              clear c26
              obtain rfl := Option.some.inj H
              go_wp2
              go_ret
              exact ⟨by first | rfl | (simp [errW_none, errW_some] <;> rfl) | (simp [*, errW_none, errW_some] <;> rfl), by repeat (first | (with_reducible first | exact HB.out | apply below_alloc | apply pw_below_drewN | apply below_drew1) | exact HB.out)⟩
            · rw [if_neg c26] at H
              have c26b0 : decide ((-1) ≤ (wrap64 ((wrap64 (t223 - a2)) - t221))) = false := decide_eq_false c26
              clear c26
              obtain rfl := Option.some.inj H
              go_wp2
              go_ret
              exact ⟨by first | rfl | (simp [errW_none, errW_some] <;> rfl) | (simp [*, errW_none, errW_some] <;> rfl), by repeat (first | (with_reducible first | exact HB.out | apply below_alloc | apply pw_below_drewN | apply below_drew1) | exact HB.out)⟩
          · rw [if_neg c25] at H
            have c25b0 : (t224 == 0) = false := beq_eq_false_iff_ne.mpr c25
            have c25b1 : (t224 != 0) = true := bne_iff_ne.mpr c25
            obtain rfl := Option.some.inj H
            go_wp2
            go_ret
            exact ⟨by first | rfl | (simp [errW_none, errW_some] <;> rfl) | (simp [*, errW_none, errW_some] <;> rfl), by repeat (first | (with_reducible first | exact HB.out | apply below_alloc | apply pw_below_drewN | apply below_drew1) | exact HB.out)⟩
        · rw [if_neg c24] at H
          have c24b0 : (t222 == 0) = false := beq_eq_false_iff_ne.mpr c24
          have c24b1 : (t222 != 0) = true := bne_iff_ne.mpr c24
          obtain rfl := Option.some.inj H
          go_wp2
          go_ret
          exact ⟨by first | rfl | (simp [errW_none, errW_some] <;> rfl) | (simp [*, errW_none, errW_some] <;> rfl), by repeat (first | (with_reducible first | exact HB.out | apply below_alloc | apply pw_below_drewN | apply below_drew1) | exact HB.out)⟩
  · replace c5 := Bool.eq_false_iff.mpr c5
    subst c5
    have H1 : (some false) = some r := by rw [if_neg (show ¬ (false = true) by decide)] at H; exact H
    clear H
    have H := H1
    clear H1
    obtain rfl := Option.some.inj H
    go_enter Try.func6, Try.ntmps6
    go_wp2_with (first | ((with_reducible refine gate_callee (f := 14) rfl ?_); refine goesL_ (some 18) rfl rfl Try.func14 (by kernel_rfl) rfl #[] rfl (by (try simp only [List.map_toArray, List.map_cons, List.map_nil]); first | done | rfl | (simp only [List.length_drop, List.length_take]; rfl)) ?_; (with_reducible refine (lombardlaw03_alive.calls k  false _ A4.out).mono ?_); rintro e w27 ⟨rfl, hb⟩; refine ⟨_, rfl, ?_⟩; have n0_ := Aside0.mk (below_step (by repeat (first | (with_reducible first | exact HB.out | apply below_alloc | apply pw_below_drewN | apply below_drew1) | exact HB.out)) hb); clear HB; have HB := n0_; clear n0_; (try clear hb); (try clear hb2); (try clear hk); (try clear hi)))
    go_ret
    exact ⟨by first | rfl | (simp [errW_none, errW_some] <;> rfl) | (simp [*, errW_none, errW_some] <;> rfl), by repeat (first | (with_reducible first | exact HB.out | apply below_alloc | apply pw_below_drewN | apply below_drew1) | exact HB.out)⟩

/-- THE ONE PURE STATEMENT of lombardlaw03_RateSteps: yours. -/
def lombardlaw03_RateSteps.Pure : Prop := ∀ (a0 : Int) (a1 : Int) (a2 : Int), (Lit.int .i64 a0).wf = true → (Lit.int .u8 a1).wf = true → (Lit.int .i64 a2).wf = true → ∃ k, lombardlaw03_RateSteps.f k a0 a1 a2 = some true
theorem lombardlaw03_RateSteps.walk (P : lombardlaw03_RateSteps.Pure) (a0 : Int) (a1 : Int) (a2 : Int) (w : World) (w0 : (Lit.int .i64 a0).wf = true) (w1 : (Lit.int .u8 a1).wf = true) (w2 : (Lit.int .i64 a2).wf = true) :
    Calls Try.prog 6 #[.int .i64 a0, .int .u8 a1, .int .i64 a2] w fun e w' => e = .returned (.bool true) ∧ Below w.heap.size w w' := by
  obtain ⟨k, h⟩ := P a0 a1 a2 w0 w1 w2
  refine (lombardlaw03_RateSteps.calls k a0 a1 a2 true w h).mono ?_
  rintro e w' ⟨rfl, hd⟩
  exact ⟨rfl, hd⟩

end Go.Proofs.Ytioicmialbimfaa.S
