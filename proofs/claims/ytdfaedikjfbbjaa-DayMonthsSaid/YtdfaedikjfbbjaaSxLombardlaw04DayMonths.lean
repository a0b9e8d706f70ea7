/- Printed by a program of this session out of the translation: what each function called here computes, and that its call comes to just that. Conditions: none beyond those that each theorem names. -/
import Derived.Test.YtdfaedikjfbbjaaSx0
import Derived.Test.YtdfaedikjfbbjaaSxDayLeap
import Derived.Test.YtdfaedikjfbbjaaSxDayLast
import Derived.Test.YtdfaedikjfbbjaaSxDayFrom
import Derived.Test.YtdfaedikjfbbjaaSxLombardlaw04Alive
namespace Go.Proofs.Ytdfaedikjfbbjaa.S
open Go.RowKit Go.Proofs.YtdfaedikjfbbjaaW.PrintWords Go.Proofs.YtdfaedikjfbbjaaW.PrintLast Go.Proofs.YtdfaedikjfbbjaaW.PrintMore
attribute [local go_sem] max2_int min2_int max_two min_two max_three min_three max_four min_four   -- for this text's walks alone
attribute [local go_sem] Go.Proofs.Ytdfaedikjfbbjaa.XWalk.cell2
set_option linter.unusedVariables false
set_option linter.unusedSimpArgs false

/-! ### lombardlaw04_DayMonths: function 7 -/
def lombardlaw04_DayMonths.l0 : Nat → Int → Int → Int → Int → Option (Bool)
  | 0, _, _, _, _ => none
  | k + 1, x3, x4, x5, x7 => if x7 ≤ 12 then ((day_From.f k x3 x7 1).bind fun bt194 => (if bt194.2 = 0 then (if bt194.1 = (wrap64 (x5 + 1)) then ((day_Last.f k x3 x7).bind fun t196 => (lombardlaw04_DayMonths.l0 k x3 (wrap64 (x4 + t196)) (wrap64 ((wrap64 (bt194.1 + t196)) - 1)) (wrap64 (x7 + 1)))) else (some false)) else (some false))) else (if x4 = 365 then ((day_Leap.f x3).bind fun t192 => (if t192 = true then (if x4 = 366 then (some t192) else (some false)) else (some true))) else (if x4 = 366 then ((day_Leap.f x3).bind fun t193 => (some t193)) else (some false)))
def lombardlaw04_DayMonths.f (k : Nat) (a0 : Int) : Option (Bool) := (lombardlaw04_alive.f k).bind fun t189 => (if t189 = true then ((day_From.f k (wrap64 ((wrap64 ((Int.tmod (wrap64 (a0)) 9999) + 1)) - 1)) 12 31).bind fun bt190 => (lombardlaw04_DayMonths.l0 k (wrap64 ((Int.tmod (wrap64 (a0)) 9999) + 1)) 0 bt190.1 1)) else (some false))
theorem lombardlaw04_DayMonths.mono_l : ∀ k, (∀ y0 y1 y2 y3, LeO (lombardlaw04_DayMonths.l0 k y0 y1 y2 y3) (lombardlaw04_DayMonths.l0 (k + 1) y0 y1 y2 y3))
  | 0 => fun _ _ _ _ r h => by simp [lombardlaw04_DayMonths.l0] at h
  | k + 1 => by
    have ih0 := lombardlaw04_DayMonths.mono_l k
    · intro y0 y1 y2 y3
      unfold lombardlaw04_DayMonths.l0
      repeat' first
      | (with_reducible exact ih0 _ _ _ _)
      | (with_reducible exact day_From.mono _ _ _ _)
      | (with_reducible exact day_Last.mono _ _ _)
      | (with_reducible exact lombardlaw04_alive.mono _)
      | (with_reducible exact LeO.refl _)
      | (with_reducible exact LeO.none _)
      | (with_reducible refine LeO.ite ?_ ?_)
      | (with_reducible refine LeO.bind ?_ (fun _ => ?_))
      | exact ih0 _ _ _ _
      | exact day_From.mono _ _ _ _
      | exact day_Last.mono _ _ _
      | exact lombardlaw04_alive.mono _
      | exact LeO.none _
      | refine LeO.ite ?_ ?_
      | refine LeO.bind ?_ (fun _ => ?_)
theorem lombardlaw04_DayMonths.mono : ∀ a0 k, LeO (lombardlaw04_DayMonths.f k a0) (lombardlaw04_DayMonths.f (k + 1) a0) := by
  intro a0 k
  have ih0 := lombardlaw04_DayMonths.mono_l k
  unfold lombardlaw04_DayMonths.f
  repeat' first
      | (with_reducible exact ih0 _ _ _ _)
      | (with_reducible exact day_From.mono _ _ _ _)
      | (with_reducible exact day_Last.mono _ _ _)
      | (with_reducible exact lombardlaw04_alive.mono _)
      | (with_reducible exact LeO.refl _)
      | (with_reducible exact LeO.none _)
      | (with_reducible refine LeO.ite ?_ ?_)
      | (with_reducible refine LeO.bind ?_ (fun _ => ?_))
      | exact ih0 _ _ _ _
      | exact day_From.mono _ _ _ _
      | exact day_Last.mono _ _ _
      | exact lombardlaw04_alive.mono _
      | exact LeO.none _
      | refine LeO.ite ?_ ?_
      | refine LeO.bind ?_ (fun _ => ?_)
set_option maxHeartbeats 8000000 in
set_option maxRecDepth 100000 in
theorem lombardlaw04_DayMonths.calls (k : Nat) (a0 : Int) (r : Bool) (w : World) (h : lombardlaw04_DayMonths.f k a0 = some r) :
    Calls Try.prog 7 #[.int .u16 a0] w fun e w' => e = .returned (.bool r) ∧ Below w.heap.size w w' := by
  have hu23 := Try.underlying23
  have HB := Aside0.mk (Below.refl w.heap.size w)
  have H : ((lombardlaw04_alive.f k).bind fun t189 => (if t189 = true then ((day_From.f k (wrap64 ((wrap64 ((Int.tmod (wrap64 (a0)) 9999) + 1)) - 1)) 12 31).bind fun bt190 => (lombardlaw04_DayMonths.l0 k (wrap64 ((Int.tmod (wrap64 (a0)) 9999) + 1)) 0 bt190.1 1)) else (some false))) = some r := h
  clear h
  replace H := Option.bind_eq_some_iff.mp H
  obtain ⟨t189, A20, H⟩ := H
  replace H : (if t189 = true then ((day_From.f k (wrap64 ((wrap64 ((Int.tmod (wrap64 (a0)) 9999) + 1)) - 1)) 12 31).bind fun bt190 => (lombardlaw04_DayMonths.l0 k (wrap64 ((Int.tmod (wrap64 (a0)) 9999) + 1)) 0 bt190.1 1)) else (some false)) = some r := H
  have A2 := Aside0.mk A20
  clear A20
  by_cases c3 : t189 = true
  · subst c3
    have H1 : ((day_From.f k (wrap64 ((wrap64 ((Int.tmod (wrap64 (a0)) 9999) + 1)) - 1)) 12 31).bind fun bt190 => (lombardlaw04_DayMonths.l0 k (wrap64 ((Int.tmod (wrap64 (a0)) 9999) + 1)) 0 bt190.1 1)) = some r := by rw [if_pos rfl] at H; exact H
    clear H
    have H := H1
    clear H1
    replace H := Option.bind_eq_some_iff.mp H
    obtain ⟨⟨t190, t191⟩, A40, H⟩ := H
    replace H : (lombardlaw04_DayMonths.l0 k (wrap64 ((Int.tmod (wrap64 (a0)) 9999) + 1)) 0 t190 1) = some r := H
    have A4 := Aside0.mk A40
    clear A40
    have H' := Aside0.mk H
    clear H
    go_enter Try.func7, Try.ntmps7
    go_wp2_with (first | ((with_reducible refine gate_callee (f := 14) rfl ?_); refine goesL_ (some 11) rfl rfl Try.func14 (by kernel_rfl) rfl #[] rfl (by (try simp only [List.map_toArray, List.map_cons, List.map_nil]); first | done | rfl | (simp only [List.length_drop, List.length_take]; rfl)) ?_; (with_reducible refine (lombardlaw04_alive.calls k  true _ A2.out).mono ?_); rintro e w5 ⟨rfl, hb⟩; refine ⟨_, rfl, ?_⟩; have n0_ := Aside0.mk (below_step (by repeat (first | (with_reducible first | exact HB.out | apply below_alloc | apply pw_below_drewN | apply below_drew1) | exact HB.out)) hb); clear HB; have HB := n0_; clear n0_; (try clear hb); (try clear hb2); (try clear hk); (try clear hi)) | ((with_reducible refine gate_callee (f := 15) rfl ?_); refine goesL_ (some 21) rfl rfl Try.func15 (by kernel_rfl) rfl #[.agg #[.int .i64 (wrap64 ((wrap64 ((Int.tmod (wrap64 (a0)) 9999) + 1)) - 1)), .int .i64 12, .int .i64 31]] rfl (by (try simp only [List.map_toArray, List.map_cons, List.map_nil]); first | done | rfl | (simp only [List.length_drop, List.length_take]; rfl)) ?_; (with_reducible refine (day_From.calls k (wrap64 ((wrap64 ((Int.tmod (wrap64 (a0)) 9999) + 1)) - 1)) 12 31 t190 t191 _ A4.out).mono ?_); rintro e w6 ⟨rfl, hb⟩; refine ⟨_, rfl, ?_⟩; have n0_ := Aside0.mk (below_step (by repeat (first | (with_reducible first | exact HB.out | apply below_alloc | apply pw_below_drewN | apply below_drew1) | exact HB.out)) hb); clear HB; have HB := n0_; clear n0_; (try clear hb); (try clear hb2); (try clear hk); (try clear hi)))
    go_loopg [4, 5, 7] k (fun kq v4 v5 v7 w' => ∃ (x4_1 : Int) (x5_1 : Int) (x7_1 : Int), v4 = .int .i64 x4_1 ∧ v5 = .int .i64 x5_1 ∧ v7 = .int .i64 x7_1 ∧ Aside0 (lombardlaw04_DayMonths.l0 kq (wrap64 ((Int.tmod (wrap64 (a0)) 9999) + 1)) x4_1 x5_1 x7_1 = some r) ∧ Aside0 (kq ≤ k) ∧ Aside0 (Below w.heap.size w w'))
    case atStart => exact ⟨(0), (t190), (1), (by first | rfl | (simp; done) | (simp [*]; done)), (by first | rfl | (simp; done) | (simp [*]; done)), (by first | rfl | (simp; done) | (simp [*]; done)), H', ⟨Nat.le_refl _⟩, ⟨by repeat (first | (with_reducible first | exact HB.out | apply below_alloc | apply pw_below_drewN | apply below_drew1) | exact HB.out)⟩⟩
    case round =>
      clear H'
      try clear c1
      try clear p2
      try clear c3
      try clear p6
      obtain ⟨x4_1, x5_1, x7_1, rfl, rfl, rfl, HA, HK1, HB⟩ := hrel
      cases gk with
      | zero => exact absurd HA.out (by simp [lombardlaw04_DayMonths.l0])
      | succ k1 =>
        have H := HA.out
        clear HA
        simp only [lombardlaw04_DayMonths.l0] at H
        by_cases c7 : x7_1 ≤ 12
        · rw [if_pos c7] at H
          have c7b0 : decide (x7_1 ≤ 12) = true := decide_eq_true c7
          clear c7
          replace H := Option.bind_eq_some_iff.mp H
          obtain ⟨⟨t194, t195⟩, A80, H⟩ := H
          replace H : (if t195 = 0 then (if t194 = (wrap64 (x5_1 + 1)) then ((day_Last.f k1 (wrap64 ((Int.tmod (wrap64 (a0)) 9999) + 1)) x7_1).bind fun t196 => (lombardlaw04_DayMonths.l0 k1 (wrap64 ((Int.tmod (wrap64 (a0)) 9999) + 1)) (wrap64 (x4_1 + t196)) (wrap64 ((wrap64 (t194 + t196)) - 1)) (wrap64 (x7_1 + 1)))) else (some false)) else (some false)) = some r := H
          have A8 := Aside0.mk A80
          clear A80
          by_cases c9 : t195 = 0
          · rw [if_pos c9] at H
            have c9b0 : (t195 == 0) = true := beq_iff_eq.mpr c9
            have c9b1 : (t195 != 0) = false := bne_eq_false_iff_eq.mpr c9
            clear c9
            by_cases c10 : t194 = (wrap64 (x5_1 + 1))
            · rw [if_pos c10] at H
              have c10b0 : (t194 == (wrap64 (x5_1 + 1))) = true := beq_iff_eq.mpr c10
              have c10b1 : (t194 != (wrap64 (x5_1 + 1))) = false := bne_eq_false_iff_eq.mpr c10
              clear c10
              replace H := Option.bind_eq_some_iff.mp H
              obtain ⟨t196, A110, H⟩ := H
              replace H : (lombardlaw04_DayMonths.l0 k1 (wrap64 ((Int.tmod (wrap64 (a0)) 9999) + 1)) (wrap64 (x4_1 + t196)) (wrap64 ((wrap64 (t194 + t196)) - 1)) (wrap64 (x7_1 + 1))) = some r := H
              have A11 := Aside0.mk A110
              clear A110
              have H' := Aside0.mk H
              clear H
              go_wp2_with (first | ((with_reducible refine gate_callee (f := 15) rfl ?_); refine goesL_ (some 32) rfl rfl Try.func15 (by kernel_rfl) rfl #[.agg #[.int .i64 (wrap64 ((Int.tmod (wrap64 (a0)) 9999) + 1)), .int .i64 x7_1, .int .i64 1]] rfl (by (try simp only [List.map_toArray, List.map_cons, List.map_nil]); first | done | rfl | (simp only [List.length_drop, List.length_take]; rfl)) ?_; (with_reducible refine (day_From.calls k1 (wrap64 ((Int.tmod (wrap64 (a0)) 9999) + 1)) x7_1 1 t194 t195 _ A8.out).mono ?_); rintro e w12 ⟨rfl, hb⟩; refine ⟨_, rfl, ?_⟩; have n0_ := Aside0.mk (below_step (by repeat (first | (with_reducible first | exact HB.out | apply below_alloc | apply pw_below_drewN | apply below_drew1) | exact HB.out)) hb); clear HB; have HB := n0_; clear n0_; (try clear hb); (try clear hb2); (try clear hk); (try clear hi)) | ((with_reducible refine gate_callee (f := 23) rfl ?_); refine goesL_ (some 45) rfl rfl Try.func23 (by kernel_rfl) rfl #[.int .i64 (wrap64 ((Int.tmod (wrap64 (a0)) 9999) + 1)), .int .i64 x7_1] rfl (by (try simp only [List.map_toArray, List.map_cons, List.map_nil]); first | done | rfl | (simp only [List.length_drop, List.length_take]; rfl)) ?_; (with_reducible refine (day_Last.calls k1 (wrap64 ((Int.tmod (wrap64 (a0)) 9999) + 1)) x7_1 t196 _ A11.out).mono ?_); rintro e w' ⟨rfl, ⟨nd, rfl⟩⟩; refine ⟨_, rfl, ?_⟩))
              go_roundg k1
              case measure => have := HK1.out; omega
              case rel => exact ⟨(wrap64 (x4_1 + t196)), (wrap64 ((wrap64 (t194 + t196)) - 1)), (wrap64 (x7_1 + 1)), (by first | rfl | (simp; done) | (simp [*]; done)), (by first | rfl | (simp; done) | (simp [*]; done)), (by first | rfl | (simp; done) | (simp [*]; done)), H', ⟨by have := HK1.out; omega⟩, ⟨by repeat (first | (with_reducible first | exact HB.out | apply below_alloc | apply pw_below_drewN | apply below_drew1) | exact HB.out)⟩⟩
            · rw [if_neg c10] at H
              have c10b0 : (t194 == (wrap64 (x5_1 + 1))) = false := beq_eq_false_iff_ne.mpr c10
              have c10b1 : (t194 != (wrap64 (x5_1 + 1))) = true := bne_iff_ne.mpr c10
              obtain rfl := Option.some.inj H
              go_wp2_with (first | ((with_reducible refine gate_callee (f := 15) rfl ?_); refine goesL_ (some 32) rfl rfl Try.func15 (by kernel_rfl) rfl #[.agg #[.int .i64 (wrap64 ((Int.tmod (wrap64 (a0)) 9999) + 1)), .int .i64 x7_1, .int .i64 1]] rfl (by (try simp only [List.map_toArray, List.map_cons, List.map_nil]); first | done | rfl | (simp only [List.length_drop, List.length_take]; rfl)) ?_; (with_reducible refine (day_From.calls k1 (wrap64 ((Int.tmod (wrap64 (a0)) 9999) + 1)) x7_1 1 t194 t195 _ A8.out).mono ?_); rintro e w13 ⟨rfl, hb⟩; refine ⟨_, rfl, ?_⟩; have n0_ := Aside0.mk (below_step (by repeat (first | (with_reducible first | exact HB.out | apply below_alloc | apply pw_below_drewN | apply below_drew1) | exact HB.out)) hb); clear HB; have HB := n0_; clear n0_; (try clear hb); (try clear hb2); (try clear hk); (try clear hi)))
              go_ret
              exact ⟨by first | rfl | (simp [errW_none, errW_some] <;> rfl) | (simp [*, errW_none, errW_some] <;> rfl), by repeat (first | (with_reducible first | exact HB.out | apply below_alloc | apply pw_below_drewN | apply below_drew1) | exact HB.out)⟩
          · rw [if_neg c9] at H
            have c9b0 : (t195 == 0) = false := beq_eq_false_iff_ne.mpr c9
            have c9b1 : (t195 != 0) = true := bne_iff_ne.mpr c9
            obtain rfl := Option.some.inj H
            go_wp2_with (first | ((with_reducible refine gate_callee (f := 15) rfl ?_); refine goesL_ (some 32) rfl rfl Try.func15 (by kernel_rfl) rfl #[.agg #[.int .i64 (wrap64 ((Int.tmod (wrap64 (a0)) 9999) + 1)), .int .i64 x7_1, .int .i64 1]] rfl (by (try simp only [List.map_toArray, List.map_cons, List.map_nil]); first | done | rfl | (simp only [List.length_drop, List.length_take]; rfl)) ?_; (with_reducible refine (day_From.calls k1 (wrap64 ((Int.tmod (wrap64 (a0)) 9999) + 1)) x7_1 1 t194 t195 _ A8.out).mono ?_); rintro e w14 ⟨rfl, hb⟩; refine ⟨_, rfl, ?_⟩; have n0_ := Aside0.mk (below_step (by repeat (first | (with_reducible first | exact HB.out | apply below_alloc | apply pw_below_drewN | apply below_drew1) | exact HB.out)) hb); clear HB; have HB := n0_; clear n0_; (try clear hb); (try clear hb2); (try clear hk); (try clear hi)))
            go_ret
            exact ⟨by first | rfl | (simp [errW_none, errW_some] <;> rfl) | (simp [*, errW_none, errW_some] <;> rfl), by repeat (first | (with_reducible first | exact HB.out | apply below_alloc | apply pw_below_drewN | apply below_drew1) | exact HB.out)⟩
        · rw [if_neg c7] at H
          have c7b0 : decide (x7_1 ≤ 12) = false := decide_eq_false c7
          clear c7
          by_cases c15 : x4_1 = 365
          · rw [if_pos c15] at H
            have c15b0 : (x4_1 == 365) = true := beq_iff_eq.mpr c15
            have c15b1 : (x4_1 != 365) = false := bne_eq_false_iff_eq.mpr c15
            clear c15
            replace H := Option.bind_eq_some_iff.mp H
            obtain ⟨t192, A160, H⟩ := H
            replace H : (if t192 = true then (if x4_1 = 366 then (some t192) else (some false)) else (some true)) = some r := H
            have A16 := Aside0.mk A160
            clear A160
            by_cases c17 : t192 = true
            · subst c17
              have H1 : (if x4_1 = 366 then (some true) else (some false)) = some r := by rw [if_pos rfl] at H; exact H
              clear H
              have H := H1
              clear H1
              by_cases c18 : x4_1 = 366
              · rw [if_pos c18] at H
                have c18b0 : (x4_1 == 366) = true := beq_iff_eq.mpr c18
                have c18b1 : (x4_1 != 366) = false := bne_eq_false_iff_eq.mpr c18
                clear c18
                obtain rfl := Option.some.inj H
                go_wp2_with (first | (go_at_call 21; (with_reducible refine (day_Leap.calls (wrap64 ((Int.tmod (wrap64 (a0)) 9999) + 1)) true _ A16.out).mono ?_); rintro e w' ⟨rfl, ⟨nd, rfl⟩⟩))
                go_ret
                exact ⟨by first | rfl | (simp [errW_none, errW_some] <;> rfl) | (simp [*, errW_none, errW_some] <;> rfl), by repeat (first | (with_reducible first | exact HB.out | apply below_alloc | apply pw_below_drewN | apply below_drew1) | exact HB.out)⟩
              · rw [if_neg c18] at H
                have c18b0 : (x4_1 == 366) = false := beq_eq_false_iff_ne.mpr c18
                have c18b1 : (x4_1 != 366) = true := bne_iff_ne.mpr c18
                obtain rfl := Option.some.inj H
                go_wp2_with (first | (go_at_call 21; (with_reducible refine (day_Leap.calls (wrap64 ((Int.tmod (wrap64 (a0)) 9999) + 1)) true _ A16.out).mono ?_); rintro e w' ⟨rfl, ⟨nd, rfl⟩⟩))
                go_ret
                exact ⟨by first | rfl | (simp [errW_none, errW_some] <;> rfl) | (simp [*, errW_none, errW_some] <;> rfl), by repeat (first | (with_reducible first | exact HB.out | apply below_alloc | apply pw_below_drewN | apply below_drew1) | exact HB.out)⟩
            · replace c17 := Bool.eq_false_iff.mpr c17
              subst c17
              have H1 : (some true) = some r := by rw [if_neg (show ¬ (false = true) by decide)] at H; exact H
              clear H
              have H := H1
              clear H1
              obtain rfl := Option.some.inj H
              go_wp2_with (first | (go_at_call 21; (with_reducible refine (day_Leap.calls (wrap64 ((Int.tmod (wrap64 (a0)) 9999) + 1)) false _ A16.out).mono ?_); rintro e w' ⟨rfl, ⟨nd, rfl⟩⟩))
              go_ret
              exact ⟨by first | rfl | (simp [errW_none, errW_some] <;> rfl) | (simp [*, errW_none, errW_some] <;> rfl), by repeat (first | (with_reducible first | exact HB.out | apply below_alloc | apply pw_below_drewN | apply below_drew1) | exact HB.out)⟩
          · rw [if_neg c15] at H
            have c15b0 : (x4_1 == 365) = false := beq_eq_false_iff_ne.mpr c15
            have c15b1 : (x4_1 != 365) = true := bne_iff_ne.mpr c15
            by_cases c19 : x4_1 = 366
            · rw [if_pos c19] at H
              have c19b0 : (x4_1 == 366) = true := beq_iff_eq.mpr c19
              have c19b1 : (x4_1 != 366) = false := bne_eq_false_iff_eq.mpr c19
              clear c19
              replace H := Option.bind_eq_some_iff.mp H
              obtain ⟨t193, A200, H⟩ := H
              replace H : (some t193) = some r := H
              have A20 := Aside0.mk A200
              clear A200
              obtain rfl := Option.some.inj H
              go_wp2_with (first | (go_at_call 21; (with_reducible refine (day_Leap.calls (wrap64 ((Int.tmod (wrap64 (a0)) 9999) + 1)) t193 _ A20.out).mono ?_); rintro e w' ⟨rfl, ⟨nd, rfl⟩⟩))
              go_ret
              exact ⟨by first | rfl | (simp [errW_none, errW_some] <;> rfl) | (simp [*, errW_none, errW_some] <;> rfl), by repeat (first | (with_reducible first | exact HB.out | apply below_alloc | apply pw_below_drewN | apply below_drew1) | exact HB.out)⟩
            · rw [if_neg c19] at H
              have c19b0 : (x4_1 == 366) = false := beq_eq_false_iff_ne.mpr c19
              have c19b1 : (x4_1 != 366) = true := bne_iff_ne.mpr c19
              obtain rfl := Option.some.inj H
              go_wp2
              go_ret
              exact ⟨by first | rfl | (simp [errW_none, errW_some] <;> rfl) | (simp [*, errW_none, errW_some] <;> rfl), by repeat (first | (with_reducible first | exact HB.out | apply below_alloc | apply pw_below_drewN | apply below_drew1) | exact HB.out)⟩
  · replace c3 := Bool.eq_false_iff.mpr c3
    subst c3
    have H1 : (some false) = some r := by rw [if_neg (show ¬ (false = true) by decide)] at H; exact H
    clear H
    have H := H1
    clear H1
    obtain rfl := Option.some.inj H
    go_enter Try.func7, Try.ntmps7
    go_wp2_with (first | ((with_reducible refine gate_callee (f := 14) rfl ?_); refine goesL_ (some 11) rfl rfl Try.func14 (by kernel_rfl) rfl #[] rfl (by (try simp only [List.map_toArray, List.map_cons, List.map_nil]); first | done | rfl | (simp only [List.length_drop, List.length_take]; rfl)) ?_; (with_reducible refine (lombardlaw04_alive.calls k  false _ A2.out).mono ?_); rintro e w21 ⟨rfl, hb⟩; refine ⟨_, rfl, ?_⟩; have n0_ := Aside0.mk (below_step (by repeat (first | (with_reducible first | exact HB.out | apply below_alloc | apply pw_below_drewN | apply below_drew1) | exact HB.out)) hb); clear HB; have HB := n0_; clear n0_; (try clear hb); (try clear hb2); (try clear hk); (try clear hi)))
    go_ret
    exact ⟨by first | rfl | (simp [errW_none, errW_some] <;> rfl) | (simp [*, errW_none, errW_some] <;> rfl), by repeat (first | (with_reducible first | exact HB.out | apply below_alloc | apply pw_below_drewN | apply below_drew1) | exact HB.out)⟩

/-- THE ONE PURE STATEMENT of lombardlaw04_DayMonths: yours. -/
def lombardlaw04_DayMonths.Pure : Prop := ∀ (a0 : Int), (Lit.int .u16 a0).wf = true → ∃ k, lombardlaw04_DayMonths.f k a0 = some true
theorem lombardlaw04_DayMonths.walk (P : lombardlaw04_DayMonths.Pure) (a0 : Int) (w : World) (w0 : (Lit.int .u16 a0).wf = true) :
    Calls Try.prog 7 #[.int .u16 a0] w fun e w' => e = .returned (.bool true) ∧ Below w.heap.size w w' := by
  obtain ⟨k, h⟩ := P a0 w0
  refine (lombardlaw04_DayMonths.calls k a0 true w h).mono ?_
  rintro e w' ⟨rfl, hd⟩
  exact ⟨rfl, hd⟩

end Go.Proofs.Ytdfaedikjfbbjaa.S
