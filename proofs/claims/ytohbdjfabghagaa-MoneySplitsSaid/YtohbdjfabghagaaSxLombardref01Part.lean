/- Printed by a program of this session out of the translation: what each function called here computes, and that its call comes to just that. Conditions: none beyond those that each theorem names. -/
import Derived.Test.YtohbdjfabghagaaSx0
namespace Go.Proofs.Ytohbdjfabghagaa.S
open Go.RowKit Go.Proofs.YtohbdjfabghagaaW.PrintWords Go.Proofs.YtohbdjfabghagaaW.PrintLast Go.Proofs.YtohbdjfabghagaaW.PrintMore
attribute [local go_sem] max2_int min2_int max_two min_two max_three min_three max_four min_four   -- for this text's walks alone
attribute [local go_sem] Go.Proofs.Ytohbdjfabghagaa.XWalk.cell2
set_option linter.unusedVariables false
set_option linter.unusedSimpArgs false

/-! ### lombardref01_part: function 57 -/
mutual
def lombardref01_part.l0 : Nat → Int → Int → Int → Int → Int → Int → Option (Int)
  | 0, _, _, _, _, _, _ => none
  | k + 1, x0, x1, x2, x7, x8, x9 => if x9 ≥ 0 then (if (wrap64 (x8 * 2)) ≥ x2 then (lombardref01_part.j1 k x0 x1 x2 (wrap64 ((wrap64 (x7 * 2)) + 1)) (wrap64 ((wrap64 (x8 * 2)) - x2)) x9) else (lombardref01_part.j1 k x0 x1 x2 (wrap64 (x7 * 2)) (wrap64 (x8 * 2)) x9)) else (some x7)
def lombardref01_part.j1 : Nat → Int → Int → Int → Int → Int → Int → Option (Int)
  | 0, _, _, _, _, _, _ => none
  | k + 1, x0, x1, x2, x7, x8, x9 => if 0 ≤ (IntKind.u64.wrap (x9)) then (if (Go.bits .and .i64 (shr .i64 x0 (IntKind.u64.wrap (x9))) 1) = 1 then (if x2 = 0 then (none) else (if (wrap64 (x8 + (Int.tmod x1 x2))) ≥ x2 then (lombardref01_part.l0 k x0 x1 x2 (wrap64 ((wrap64 (x7 + (wrap64 (Int.tdiv x1 x2)))) + 1)) (wrap64 ((wrap64 (x8 + (Int.tmod x1 x2))) - x2)) (wrap64 (x9 - 1))) else (lombardref01_part.l0 k x0 x1 x2 (wrap64 (x7 + (wrap64 (Int.tdiv x1 x2)))) (wrap64 (x8 + (Int.tmod x1 x2))) (wrap64 (x9 - 1))))) else (lombardref01_part.l0 k x0 x1 x2 x7 x8 (wrap64 (x9 - 1)))) else (none)
def lombardref01_part.f : Nat → Int → Int → Int → Option (Int)
  | 0, _, _, _ => none
  | k + 1, a0, a1, a2 => if a0 < 0 then ((lombardref01_part.f k (wrap64 (-a0)) a1 a2).bind fun t238 => (some (wrap64 (-t238)))) else (lombardref01_part.l0 k a0 a1 a2 0 0 62)
end
theorem lombardref01_part.mono_l : ∀ k, (∀ y0 y1 y2, LeO (lombardref01_part.f k y0 y1 y2) (lombardref01_part.f (k + 1) y0 y1 y2)) ∧ (∀ y0 y1 y2 y3 y4 y5, LeO (lombardref01_part.l0 k y0 y1 y2 y3 y4 y5) (lombardref01_part.l0 (k + 1) y0 y1 y2 y3 y4 y5)) ∧ (∀ y0 y1 y2 y3 y4 y5, LeO (lombardref01_part.j1 k y0 y1 y2 y3 y4 y5) (lombardref01_part.j1 (k + 1) y0 y1 y2 y3 y4 y5))
  | 0 => ⟨fun _ _ _ r h => by simp [lombardref01_part.f] at h, fun _ _ _ _ _ _ r h => by simp [lombardref01_part.l0] at h, fun _ _ _ _ _ _ r h => by simp [lombardref01_part.j1] at h⟩
  | k + 1 => by
    obtain ⟨ih0, ih1, ih2⟩ := lombardref01_part.mono_l k
    refine ⟨?_, ?_, ?_⟩
    · intro y0 y1 y2
      unfold lombardref01_part.f
      repeat' first
      | (with_reducible exact ih0 _ _ _)
      | (with_reducible exact ih1 _ _ _ _ _ _)
      | (with_reducible exact ih2 _ _ _ _ _ _)
      | (with_reducible exact LeO.refl _)
      | (with_reducible exact LeO.none _)
      | (with_reducible refine LeO.ite ?_ ?_)
      | (with_reducible refine LeO.bind ?_ (fun _ => ?_))
      | exact ih0 _ _ _
      | exact ih1 _ _ _ _ _ _
      | exact ih2 _ _ _ _ _ _
      | exact LeO.none _
      | refine LeO.ite ?_ ?_
      | refine LeO.bind ?_ (fun _ => ?_)
    · intro y0 y1 y2 y3 y4 y5
      unfold lombardref01_part.l0
      repeat' first
      | (with_reducible exact ih0 _ _ _)
      | (with_reducible exact ih1 _ _ _ _ _ _)
      | (with_reducible exact ih2 _ _ _ _ _ _)
      | (with_reducible exact LeO.refl _)
      | (with_reducible exact LeO.none _)
      | (with_reducible refine LeO.ite ?_ ?_)
      | (with_reducible refine LeO.bind ?_ (fun _ => ?_))
      | exact ih0 _ _ _
      | exact ih1 _ _ _ _ _ _
      | exact ih2 _ _ _ _ _ _
      | exact LeO.none _
      | refine LeO.ite ?_ ?_
      | refine LeO.bind ?_ (fun _ => ?_)
    · intro y0 y1 y2 y3 y4 y5
      unfold lombardref01_part.j1
      repeat' first
      | (with_reducible exact ih0 _ _ _)
      | (with_reducible exact ih1 _ _ _ _ _ _)
      | (with_reducible exact ih2 _ _ _ _ _ _)
      | (with_reducible exact LeO.refl _)
      | (with_reducible exact LeO.none _)
      | (with_reducible refine LeO.ite ?_ ?_)
      | (with_reducible refine LeO.bind ?_ (fun _ => ?_))
      | exact ih0 _ _ _
      | exact ih1 _ _ _ _ _ _
      | exact ih2 _ _ _ _ _ _
      | exact LeO.none _
      | refine LeO.ite ?_ ?_
      | refine LeO.bind ?_ (fun _ => ?_)
theorem lombardref01_part.mono : ∀ a0 a1 a2 k, LeO (lombardref01_part.f k a0 a1 a2) (lombardref01_part.f (k + 1) a0 a1 a2) := by
  intro a0 a1 a2 k
  obtain ⟨ih0, ih1, ih2⟩ := lombardref01_part.mono_l k
  exact ih0 a0 a1 a2
set_option maxHeartbeats 8000000 in
set_option maxRecDepth 100000 in
theorem lombardref01_part.calls (k : Nat) : ∀ (a0 : Int) (a1 : Int) (a2 : Int) (r : Int) (w : World) (h : lombardref01_part.f k a0 a1 a2 = some r),
    Calls Try.prog 57 #[.int .i64 a0, .int .i64 a1, .int .i64 a2] w fun e w' => e = .returned (.int .i64 r) ∧ Drawn0 w w' := by
  induction k using Nat.strongRecOn with
  | _ k ih =>
  intro a0 a1 a2 r w h
  cases k with
  | zero => exact absurd h (by simp [lombardref01_part.f])
  | succ k =>
  simp only [lombardref01_part.f] at h
  have H : (if a0 < 0 then ((lombardref01_part.f k (wrap64 (-a0)) a1 a2).bind fun t238 => (some (wrap64 (-t238)))) else (lombardref01_part.l0 k a0 a1 a2 0 0 62)) = some r := h
  clear h
  by_cases c4 : a0 < 0
  · rw [if_pos c4] at H
    have c4b0 : decide (a0 < 0) = true := decide_eq_true c4
    clear c4
    replace H := Option.bind_eq_some_iff.mp H
    obtain ⟨t238, A50, H⟩ := H
    replace H : (some (wrap64 (-t238))) = some r := H
    have A5 := Aside0.mk A50
    clear A50
    obtain rfl := Option.some.inj H
    go_enter Try.func57, Try.ntmps57
    go_wp2_with (first | ((with_reducible refine gate_callee (f := 57) rfl ?_); refine goesL_ (some 16) rfl rfl Try.func57 (by kernel_rfl) rfl #[.int .i64 (wrap64 (-a0)), .int .i64 a1, .int .i64 a2] rfl (by (try simp only [List.map_toArray, List.map_cons, List.map_nil]); first | done | rfl | (simp only [List.length_drop, List.length_take]; rfl)) ?_; (with_reducible refine (ih k (by omega) (wrap64 (-a0)) a1 a2 t238 _ A5.out).mono ?_); rintro e w' ⟨rfl, ⟨nd, rfl⟩⟩; refine ⟨_, rfl, ?_⟩))
    go_ret
    exact ⟨by first | rfl | (simp; done) | (simp [*]; done), by repeat (first | exact Drawn0.refl _ | apply Drawn0.step)⟩
  · rw [if_neg c4] at H
    have c4b0 : decide (a0 < 0) = false := decide_eq_false c4
    clear c4
    have H' := Aside0.mk H
    clear H
    go_enter Try.func57, Try.ntmps57
    go_wp2
    go_loopg [7, 8, 9] k (fun kq v7 v8 v9 w' => ∃ (x7_1 : Int) (x8_1 : Int) (x9_1 : Int), v7 = .int .i64 x7_1 ∧ v8 = .int .i64 x8_1 ∧ v9 = .int .i64 x9_1 ∧ Aside0 (lombardref01_part.l0 kq a0 a1 a2 x7_1 x8_1 x9_1 = some r) ∧ Aside0 (kq ≤ k) ∧ Drawn0 w w')
    case atStart => exact ⟨(0), (0), (62), (by first | rfl | (simp; done) | (simp [*]; done)), (by first | rfl | (simp; done) | (simp [*]; done)), (by first | rfl | (simp; done) | (simp [*]; done)), H', ⟨Nat.le_refl _⟩, by repeat (first | exact Drawn0.refl _ | apply Drawn0.step)⟩
    case round =>
      clear H'
      try clear p2
      try clear c4
      try clear c4b0
      try clear c5
      obtain ⟨x7_1, x8_1, x9_1, rfl, rfl, rfl, HA, HK1, ⟨m1, rfl⟩⟩ := hrel
      cases gk with
      | zero => exact absurd HA.out (by simp [lombardref01_part.l0])
      | succ k1 =>
        have H := HA.out
        clear HA
        simp only [lombardref01_part.l0] at H
        by_cases c6 : x9_1 ≥ 0
        · rw [if_pos c6] at H
          have c6b0 : decide (0 ≤ x9_1) = true := decide_eq_true c6
          clear c6
          have HC7 := Aside0.mk H
          clear H
          go_upto_if 28 with (fail)
          go_cut [7, 8] (fun v7 v8 wc => ∃ (kq : Nat) (x7_6 : Int) (x8_6 : Int), v7 = .int .i64 x7_6 ∧ v8 = .int .i64 x8_6 ∧ Aside0 (lombardref01_part.j1 kq a0 a1 a2 x7_6 x8_6 x9_1 = some r) ∧ Aside0 (kq ≤ k1) ∧ Drawn0 w wc)
          case first =>
            have H := HC7.out
            clear HC7
            by_cases c8 : (wrap64 (x8_1 * 2)) ≥ a2
            · rw [if_pos c8] at H
              have c8b0 : decide (a2 ≤ (wrap64 (x8_1 * 2))) = true := decide_eq_true c8
              clear c8
              (first | rw [c8b0] | (simp only [i64_w, i32_w]; rw [c8b0]) | skip)
              have H' := Aside0.mk H
              clear H
              go_wp2
              go_meet
              case rel => exact ⟨_, (wrap64 ((wrap64 (x7_1 * 2)) + 1)), (wrap64 ((wrap64 (x8_1 * 2)) - a2)), (by first | rfl | (simp; done) | (simp [*]; done)), (by first | rfl | (simp; done) | (simp [*]; done)), H', ⟨by have := HK1.out; first | omega | exact Nat.le_refl _⟩, by repeat (first | exact Drawn0.refl _ | apply Drawn0.step)⟩
            · rw [if_neg c8] at H
              have c8b0 : decide (a2 ≤ (wrap64 (x8_1 * 2))) = false := decide_eq_false c8
              clear c8
              (first | rw [c8b0] | (simp only [i64_w, i32_w]; rw [c8b0]) | skip)
              have H' := Aside0.mk H
              clear H
              go_wp2
              go_meet
              case rel => exact ⟨_, (wrap64 (x7_1 * 2)), (wrap64 (x8_1 * 2)), (by first | rfl | (simp; done) | (simp [*]; done)), (by first | rfl | (simp; done) | (simp [*]; done)), H', ⟨by have := HK1.out; first | omega | exact Nat.le_refl _⟩, by repeat (first | exact Drawn0.refl _ | apply Drawn0.step)⟩
          case rest =>
            clear HC7
            try clear p2
            try clear c4
            try clear c4b0
            try clear c5
            try clear c6
            try clear c6b0
            try clear p6
            try clear c8
            try clear c8b0
            try clear p2
            obtain ⟨kq, x7_6, x8_6, rfl, rfl, HA, HJ6, ⟨mc6, rfl⟩⟩ := hcut
            cases kq with
            | zero => exact absurd HA.out (by simp [lombardref01_part.j1])
            | succ kj6 =>
              have H := HA.out
              clear HA
              simp only [lombardref01_part.j1] at H
              obtain ⟨ji9, hji9⟩ : ∃ j_ : Int, (IntKind.u64.wrap (x9_1)) = j_ := ⟨_, rfl⟩
              replace H : (if 0 ≤ (ji9) then (if (Go.bits .and .i64 (shr .i64 a0 (ji9)) 1) = 1 then (if a2 = 0 then (none) else (if (wrap64 (x8_6 + (Int.tmod a1 a2))) ≥ a2 then (lombardref01_part.l0 kj6 a0 a1 a2 (wrap64 ((wrap64 (x7_6 + (wrap64 (Int.tdiv a1 a2)))) + 1)) (wrap64 ((wrap64 (x8_6 + (Int.tmod a1 a2))) - a2)) (wrap64 (x9_1 - 1))) else (lombardref01_part.l0 kj6 a0 a1 a2 (wrap64 (x7_6 + (wrap64 (Int.tdiv a1 a2)))) (wrap64 (x8_6 + (Int.tmod a1 a2))) (wrap64 (x9_1 - 1))))) else (lombardref01_part.l0 kj6 a0 a1 a2 x7_6 x8_6 (wrap64 (x9_1 - 1)))) else (none)) = some r := by first | (rw [hji9] at H; exact H) | (simp only [hji9] at H ⊢; exact H)
              by_cases c10 : 0 ≤ (ji9)
              · rw [if_pos c10] at H
                have c10b0 := eq_true c10
                have c10b1 : decide (0 ≤ (ji9)) = true := decide_eq_true c10
                clear c10
                obtain ⟨ji11, hji11⟩ : ∃ j_ : Int, (shr .i64 a0 (ji9)) = j_ := ⟨_, rfl⟩
                replace H : (if (Go.bits .and .i64 (ji11) 1) = 1 then (if a2 = 0 then (none) else (if (wrap64 (x8_6 + (Int.tmod a1 a2))) ≥ a2 then (lombardref01_part.l0 kj6 a0 a1 a2 (wrap64 ((wrap64 (x7_6 + (wrap64 (Int.tdiv a1 a2)))) + 1)) (wrap64 ((wrap64 (x8_6 + (Int.tmod a1 a2))) - a2)) (wrap64 (x9_1 - 1))) else (lombardref01_part.l0 kj6 a0 a1 a2 (wrap64 (x7_6 + (wrap64 (Int.tdiv a1 a2)))) (wrap64 (x8_6 + (Int.tmod a1 a2))) (wrap64 (x9_1 - 1))))) else (lombardref01_part.l0 kj6 a0 a1 a2 x7_6 x8_6 (wrap64 (x9_1 - 1)))) = some r := by first | (rw [hji11] at H; exact H) | (simp only [hji11] at H ⊢; exact H)
                have hji11_ : (a0 / 2 ^ min (ji9).toNat 64) = ji11 := hji11
                have hji11z : (ji9) ≤ 64 → (a0 / 2 ^ (ji9).toNat) = ji11 := shr_small hji11
                by_cases c12 : (Go.bits .and .i64 (ji11) 1) = 1
                · rw [if_pos c12] at H
                  have c12b0 : ((Go.bits .and .i64 (ji11) 1) == 1) = true := beq_iff_eq.mpr c12
                  have c12b1 : ((Go.bits .and .i64 (ji11) 1) != 1) = false := bne_eq_false_iff_eq.mpr c12
                  clear c12
                  by_cases c13 : a2 = 0
                  · rw [if_pos c13] at H
                    exact absurd H (by simp)
                  · rw [if_neg c13] at H
                    have c13b0 : (a2 == 0) = false := beq_eq_false_iff_ne.mpr c13
                    have c13b1 : (a2 != 0) = true := bne_iff_ne.mpr c13
                    by_cases c14 : (wrap64 (x8_6 + (Int.tmod a1 a2))) ≥ a2
                    · rw [if_pos c14] at H
                      have c14b0 : decide (a2 ≤ (wrap64 (x8_6 + (Int.tmod a1 a2)))) = true := decide_eq_true c14
                      clear c14
                      have H' := Aside0.mk H
                      clear H
                      go_wp2
                      go_roundg kj6
                      case measure => have := HK1.out; have := HJ6.out; omega
                      case rel => exact ⟨(wrap64 ((wrap64 (x7_6 + (wrap64 (Int.tdiv a1 a2)))) + 1)), (wrap64 ((wrap64 (x8_6 + (Int.tmod a1 a2))) - a2)), (wrap64 (x9_1 - 1)), (by first | rfl | (simp; done) | (simp [*]; done)), (by first | rfl | (simp; done) | (simp [*]; done)), (by first | rfl | (simp; done) | (simp [*]; done)), H', ⟨by have := HK1.out; have := HJ6.out; omega⟩, by repeat (first | exact Drawn0.refl _ | apply Drawn0.step)⟩
                    · rw [if_neg c14] at H
                      have c14b0 : decide (a2 ≤ (wrap64 (x8_6 + (Int.tmod a1 a2)))) = false := decide_eq_false c14
                      clear c14
                      have H' := Aside0.mk H
                      clear H
                      go_wp2
                      go_roundg kj6
                      case measure => have := HK1.out; have := HJ6.out; omega
                      case rel => exact ⟨(wrap64 (x7_6 + (wrap64 (Int.tdiv a1 a2)))), (wrap64 (x8_6 + (Int.tmod a1 a2))), (wrap64 (x9_1 - 1)), (by first | rfl | (simp; done) | (simp [*]; done)), (by first | rfl | (simp; done) | (simp [*]; done)), (by first | rfl | (simp; done) | (simp [*]; done)), H', ⟨by have := HK1.out; have := HJ6.out; omega⟩, by repeat (first | exact Drawn0.refl _ | apply Drawn0.step)⟩
                · rw [if_neg c12] at H
                  have c12b0 : ((Go.bits .and .i64 (ji11) 1) == 1) = false := beq_eq_false_iff_ne.mpr c12
                  have c12b1 : ((Go.bits .and .i64 (ji11) 1) != 1) = true := bne_iff_ne.mpr c12
                  have H' := Aside0.mk H
                  clear H
                  go_wp2
                  go_roundg kj6
                  case measure => have := HK1.out; have := HJ6.out; omega
                  case rel => exact ⟨(x7_6), (x8_6), (wrap64 (x9_1 - 1)), (by first | rfl | (simp; done) | (simp [*]; done)), (by first | rfl | (simp; done) | (simp [*]; done)), (by first | rfl | (simp; done) | (simp [*]; done)), H', ⟨by have := HK1.out; have := HJ6.out; omega⟩, by repeat (first | exact Drawn0.refl _ | apply Drawn0.step)⟩
              · rw [if_neg c10] at H
                exact absurd H (by simp)
        · rw [if_neg c6] at H
          have c6b0 : decide (0 ≤ x9_1) = false := decide_eq_false c6
          clear c6
          obtain rfl := Option.some.inj H
          go_wp2
          go_ret
          exact ⟨by first | rfl | (simp; done) | (simp [*]; done), by repeat (first | exact Drawn0.refl _ | apply Drawn0.step)⟩

end Go.Proofs.Ytohbdjfabghagaa.S
