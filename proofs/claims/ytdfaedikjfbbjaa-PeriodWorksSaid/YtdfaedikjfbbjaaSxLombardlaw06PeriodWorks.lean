/- Printed by a program of this session out of the translation: what each function called here computes, and that its call comes to just that. Conditions: none beyond those that each theorem names. -/
import Derived.Test.YtdfaedikjfbbjaaSx0
import Derived.Test.YtdfaedikjfbbjaaSxDayTo
import Derived.Test.YtdfaedikjfbbjaaSxPeriodWorks
import Derived.Test.YtdfaedikjfbbjaaSxPeriodRoll
import Derived.Test.YtdfaedikjfbbjaaSxLombardlaw06Alive
namespace Go.Proofs.Ytdfaedikjfbbjaa.S
open Go.RowKit Go.Proofs.YtdfaedikjfbbjaaW.PrintWords Go.Proofs.YtdfaedikjfbbjaaW.PrintLast Go.Proofs.YtdfaedikjfbbjaaW.PrintMore
attribute [local go_sem] max2_int min2_int max_two min_two max_three min_three max_four min_four   -- for this text's walks alone
attribute [local go_sem] Go.Proofs.Ytdfaedikjfbbjaa.XWalk.cell2
set_option linter.unusedVariables false
set_option linter.unusedSimpArgs false

/-! ### lombardlaw06_PeriodWorks: function 10 -/
mutual
def lombardlaw06_PeriodWorks.j0 : Nat → Int → List Int → Bool → Option (Bool)
  | 0, _, _, _ => none
  | k + 1, x0, x1, x30 => if x30 = true then (some true) else ((period_Roll.f k x0 1 x1).bind fun bt323 => ((period_Roll.f k x0 3 x1).bind fun bt325 => ((period_Roll.f k x0 2 x1).bind fun bt327 => ((period_Roll.f k x0 0 x1).bind fun bt329 => (if bt323.2 = 0 then (if bt325.2 = 0 then (if bt327.2 = 0 then (if bt329.2 = 0 then (if bt329.1 = x0 then ((period_Works.f k bt323.1 x1).bind fun t331 => (if t331 = true then ((period_Works.f k bt325.1 x1).bind fun t332 => (if t332 = true then (if bt323.1 < x0 then (lombardlaw06_PeriodWorks.j1 k x0 x1 bt323.1 bt325.1 bt327.1 true) else (if bt325.1 > x0 then (lombardlaw06_PeriodWorks.j1 k x0 x1 bt323.1 bt325.1 bt327.1 true) else (if bt327.1 = bt323.1 then (lombardlaw06_PeriodWorks.j1 k x0 x1 bt323.1 bt325.1 bt327.1 false) else (lombardlaw06_PeriodWorks.j1 k x0 x1 bt323.1 bt325.1 bt327.1 (bt327.1 != bt325.1))))) else (lombardlaw06_PeriodWorks.j1 k x0 x1 bt323.1 bt325.1 bt327.1 true))) else (lombardlaw06_PeriodWorks.j1 k x0 x1 bt323.1 bt325.1 bt327.1 true))) else (lombardlaw06_PeriodWorks.j1 k x0 x1 bt323.1 bt325.1 bt327.1 true)) else (lombardlaw06_PeriodWorks.j1 k x0 x1 bt323.1 bt325.1 bt327.1 true)) else (lombardlaw06_PeriodWorks.j1 k x0 x1 bt323.1 bt325.1 bt327.1 true)) else (lombardlaw06_PeriodWorks.j1 k x0 x1 bt323.1 bt325.1 bt327.1 true)) else (lombardlaw06_PeriodWorks.j1 k x0 x1 bt323.1 bt325.1 bt327.1 true))))))
def lombardlaw06_PeriodWorks.j1 : Nat → Int → List Int → Int → Int → Int → Bool → Option (Bool)
  | 0, _, _, _, _, _, _ => none
  | k + 1, x0, x1, x5, x7, x9, x105 => if x105 = true then (some false) else ((period_Works.f k x0 x1).bind fun t333 => (if t333 = true then (if x5 = x0 then (lombardlaw06_PeriodWorks.j2 k x0 x1 x5 x7 x9 (x7 != x0)) else (lombardlaw06_PeriodWorks.j2 k x0 x1 x5 x7 x9 true)) else (lombardlaw06_PeriodWorks.j2 k x0 x1 x5 x7 x9 false)))
def lombardlaw06_PeriodWorks.j2 : Nat → Int → List Int → Int → Int → Int → Bool → Option (Bool)
  | 0, _, _, _, _, _, _ => none
  | k + 1, x0, x1, x5, x7, x9, x118 => if x118 = true then (some false) else (lombardlaw06_PeriodWorks.l0 k x0 x1 x5 x7 x9 (wrap64 (x7 + 1)))
def lombardlaw06_PeriodWorks.l0 : Nat → Int → List Int → Int → Int → Int → Int → Option (Bool)
  | 0, _, _, _, _, _, _ => none
  | k + 1, x0, x1, x5, x7, x9, x13 => if x13 < x5 then ((period_Works.f k x13 x1).bind fun t334 => (if t334 = true then (some false) else (lombardlaw06_PeriodWorks.l0 k x0 x1 x5 x7 x9 (wrap64 (x13 + 1))))) else ((day_To.f k x0).bind fun bt335 => ((day_To.f k x5).bind fun bt340 => (if bt335.2.1 = bt340.2.1 then (if bt335.1 = bt340.1 then (some (x9 == x5)) else (some (x9 == x7))) else (some (x9 == x7)))))
end
def lombardlaw06_PeriodWorks.f (k : Nat) (a0 : Int) (l1 : List Int) : Option (Bool) := (lombardlaw06_alive.f k).bind fun t322 => (if t322 = true then (if (l1.length : Int) > 600 then (lombardlaw06_PeriodWorks.j0 k a0 l1 true) else (if a0 < 10000 then (lombardlaw06_PeriodWorks.j0 k a0 l1 true) else (lombardlaw06_PeriodWorks.j0 k a0 l1 (decide (a0 > 3600000))))) else (some false))
theorem lombardlaw06_PeriodWorks.mono_l : ∀ k, (∀ y0 y1 y2, LeO (lombardlaw06_PeriodWorks.j0 k y0 y1 y2) (lombardlaw06_PeriodWorks.j0 (k + 1) y0 y1 y2)) ∧ (∀ y0 y1 y2 y3 y4 y5, LeO (lombardlaw06_PeriodWorks.j1 k y0 y1 y2 y3 y4 y5) (lombardlaw06_PeriodWorks.j1 (k + 1) y0 y1 y2 y3 y4 y5)) ∧ (∀ y0 y1 y2 y3 y4 y5, LeO (lombardlaw06_PeriodWorks.j2 k y0 y1 y2 y3 y4 y5) (lombardlaw06_PeriodWorks.j2 (k + 1) y0 y1 y2 y3 y4 y5)) ∧ (∀ y0 y1 y2 y3 y4 y5, LeO (lombardlaw06_PeriodWorks.l0 k y0 y1 y2 y3 y4 y5) (lombardlaw06_PeriodWorks.l0 (k + 1) y0 y1 y2 y3 y4 y5))
  | 0 => ⟨fun _ _ _ r h => by simp [lombardlaw06_PeriodWorks.j0] at h, fun _ _ _ _ _ _ r h => by simp [lombardlaw06_PeriodWorks.j1] at h, fun _ _ _ _ _ _ r h => by simp [lombardlaw06_PeriodWorks.j2] at h, fun _ _ _ _ _ _ r h => by simp [lombardlaw06_PeriodWorks.l0] at h⟩
  | k + 1 => by
    obtain ⟨ih0, ih1, ih2, ih3⟩ := lombardlaw06_PeriodWorks.mono_l k
    refine ⟨?_, ?_, ?_, ?_⟩
    · intro y0 y1 y2
      unfold lombardlaw06_PeriodWorks.j0
      repeat' first
      | (with_reducible exact ih0 _ _ _)
      | (with_reducible exact ih1 _ _ _ _ _ _)
      | (with_reducible exact ih2 _ _ _ _ _ _)
      | (with_reducible exact ih3 _ _ _ _ _ _)
      | (with_reducible exact day_To.mono _ _)
      | (with_reducible exact lombardlaw06_alive.mono _)
      | (with_reducible exact period_Roll.mono _ _ _ _)
      | (with_reducible exact period_Works.mono _ _ _)
      | (with_reducible exact LeO.refl _)
      | (with_reducible exact LeO.none _)
      | (with_reducible refine LeO.ite ?_ ?_)
      | (with_reducible refine LeO.bind ?_ (fun _ => ?_))
      | exact ih0 _ _ _
      | exact ih1 _ _ _ _ _ _
      | exact ih2 _ _ _ _ _ _
      | exact ih3 _ _ _ _ _ _
      | exact day_To.mono _ _
      | exact lombardlaw06_alive.mono _
      | exact period_Roll.mono _ _ _ _
      | exact period_Works.mono _ _ _
      | exact LeO.none _
      | refine LeO.ite ?_ ?_
      | refine LeO.bind ?_ (fun _ => ?_)
    · intro y0 y1 y2 y3 y4 y5
      unfold lombardlaw06_PeriodWorks.j1
      repeat' first
      | (with_reducible exact ih0 _ _ _)
      | (with_reducible exact ih1 _ _ _ _ _ _)
      | (with_reducible exact ih2 _ _ _ _ _ _)
      | (with_reducible exact ih3 _ _ _ _ _ _)
      | (with_reducible exact day_To.mono _ _)
      | (with_reducible exact lombardlaw06_alive.mono _)
      | (with_reducible exact period_Roll.mono _ _ _ _)
      | (with_reducible exact period_Works.mono _ _ _)
      | (with_reducible exact LeO.refl _)
      | (with_reducible exact LeO.none _)
      | (with_reducible refine LeO.ite ?_ ?_)
      | (with_reducible refine LeO.bind ?_ (fun _ => ?_))
      | exact ih0 _ _ _
      | exact ih1 _ _ _ _ _ _
      | exact ih2 _ _ _ _ _ _
      | exact ih3 _ _ _ _ _ _
      | exact day_To.mono _ _
      | exact lombardlaw06_alive.mono _
      | exact period_Roll.mono _ _ _ _
      | exact period_Works.mono _ _ _
      | exact LeO.none _
      | refine LeO.ite ?_ ?_
      | refine LeO.bind ?_ (fun _ => ?_)
    · intro y0 y1 y2 y3 y4 y5
      unfold lombardlaw06_PeriodWorks.j2
      repeat' first
      | (with_reducible exact ih0 _ _ _)
      | (with_reducible exact ih1 _ _ _ _ _ _)
      | (with_reducible exact ih2 _ _ _ _ _ _)
      | (with_reducible exact ih3 _ _ _ _ _ _)
      | (with_reducible exact day_To.mono _ _)
      | (with_reducible exact lombardlaw06_alive.mono _)
      | (with_reducible exact period_Roll.mono _ _ _ _)
      | (with_reducible exact period_Works.mono _ _ _)
      | (with_reducible exact LeO.refl _)
      | (with_reducible exact LeO.none _)
      | (with_reducible refine LeO.ite ?_ ?_)
      | (with_reducible refine LeO.bind ?_ (fun _ => ?_))
      | exact ih0 _ _ _
      | exact ih1 _ _ _ _ _ _
      | exact ih2 _ _ _ _ _ _
      | exact ih3 _ _ _ _ _ _
      | exact day_To.mono _ _
      | exact lombardlaw06_alive.mono _
      | exact period_Roll.mono _ _ _ _
      | exact period_Works.mono _ _ _
      | exact LeO.none _
      | refine LeO.ite ?_ ?_
      | refine LeO.bind ?_ (fun _ => ?_)
    · intro y0 y1 y2 y3 y4 y5
      unfold lombardlaw06_PeriodWorks.l0
      repeat' first
      | (with_reducible exact ih0 _ _ _)
      | (with_reducible exact ih1 _ _ _ _ _ _)
      | (with_reducible exact ih2 _ _ _ _ _ _)
      | (with_reducible exact ih3 _ _ _ _ _ _)
      | (with_reducible exact day_To.mono _ _)
      | (with_reducible exact lombardlaw06_alive.mono _)
      | (with_reducible exact period_Roll.mono _ _ _ _)
      | (with_reducible exact period_Works.mono _ _ _)
      | (with_reducible exact LeO.refl _)
      | (with_reducible exact LeO.none _)
      | (with_reducible refine LeO.ite ?_ ?_)
      | (with_reducible refine LeO.bind ?_ (fun _ => ?_))
      | exact ih0 _ _ _
      | exact ih1 _ _ _ _ _ _
      | exact ih2 _ _ _ _ _ _
      | exact ih3 _ _ _ _ _ _
      | exact day_To.mono _ _
      | exact lombardlaw06_alive.mono _
      | exact period_Roll.mono _ _ _ _
      | exact period_Works.mono _ _ _
      | exact LeO.none _
      | refine LeO.ite ?_ ?_
      | refine LeO.bind ?_ (fun _ => ?_)
theorem lombardlaw06_PeriodWorks.mono : ∀ a0 a1 k, LeO (lombardlaw06_PeriodWorks.f k a0 a1) (lombardlaw06_PeriodWorks.f (k + 1) a0 a1) := by
  intro a0 a1 k
  obtain ⟨ih0, ih1, ih2, ih3⟩ := lombardlaw06_PeriodWorks.mono_l k
  unfold lombardlaw06_PeriodWorks.f
  repeat' first
      | (with_reducible exact ih0 _ _ _)
      | (with_reducible exact ih1 _ _ _ _ _ _)
      | (with_reducible exact ih2 _ _ _ _ _ _)
      | (with_reducible exact ih3 _ _ _ _ _ _)
      | (with_reducible exact day_To.mono _ _)
      | (with_reducible exact lombardlaw06_alive.mono _)
      | (with_reducible exact period_Roll.mono _ _ _ _)
      | (with_reducible exact period_Works.mono _ _ _)
      | (with_reducible exact LeO.refl _)
      | (with_reducible exact LeO.none _)
      | (with_reducible refine LeO.ite ?_ ?_)
      | (with_reducible refine LeO.bind ?_ (fun _ => ?_))
      | exact ih0 _ _ _
      | exact ih1 _ _ _ _ _ _
      | exact ih2 _ _ _ _ _ _
      | exact ih3 _ _ _ _ _ _
      | exact day_To.mono _ _
      | exact lombardlaw06_alive.mono _
      | exact period_Roll.mono _ _ _ _
      | exact period_Works.mono _ _ _
      | exact LeO.none _
      | refine LeO.ite ?_ ?_
      | refine LeO.bind ?_ (fun _ => ?_)
set_option maxHeartbeats 8000000 in
set_option maxRecDepth 100000 in
theorem lombardlaw06_PeriodWorks.calls (k : Nat) (a0 : Int) (A1 : Option Addr) (c1 : Nat) (l1 : List Int) (r : Bool) (w : World) (hr1 : Kd.C (Kd.int .i64) w A1 l1.length l1) (hc1 : l1.length ≤ c1) (h : lombardlaw06_PeriodWorks.f k a0 l1 = some r) :
    Calls Try.prog 10 #[.int .i64 a0, .slice A1 l1.length c1] w fun e w' => e = .returned (.bool r) ∧ Below w.heap.size w w' := by
  have hu23 := Try.underlying23
  have HR1 := Aside0.mk hr1
  have HC1 := Aside0.mk hc1
  clear hr1 hc1
  have HB := Aside0.mk (Below.refl w.heap.size w)
  have H : ((lombardlaw06_alive.f k).bind fun t322 => (if t322 = true then (if (l1.length : Int) > 600 then (lombardlaw06_PeriodWorks.j0 k a0 l1 true) else (if a0 < 10000 then (lombardlaw06_PeriodWorks.j0 k a0 l1 true) else (lombardlaw06_PeriodWorks.j0 k a0 l1 (decide (a0 > 3600000))))) else (some false))) = some r := h
  clear h
  replace H := Option.bind_eq_some_iff.mp H
  obtain ⟨t322, A30, H⟩ := H
  replace H : (if t322 = true then (if (l1.length : Int) > 600 then (lombardlaw06_PeriodWorks.j0 k a0 l1 true) else (if a0 < 10000 then (lombardlaw06_PeriodWorks.j0 k a0 l1 true) else (lombardlaw06_PeriodWorks.j0 k a0 l1 (decide (a0 > 3600000))))) else (some false)) = some r := H
  have A3 := Aside0.mk A30
  clear A30
  by_cases c4 : t322 = true
  · subst c4
    have H1 : (if (l1.length : Int) > 600 then (lombardlaw06_PeriodWorks.j0 k a0 l1 true) else (if a0 < 10000 then (lombardlaw06_PeriodWorks.j0 k a0 l1 true) else (lombardlaw06_PeriodWorks.j0 k a0 l1 (decide (a0 > 3600000))))) = some r := by rw [if_pos rfl] at H; exact H
    clear H
    have H := H1
    clear H1
    have HC5 := Aside0.mk H
    clear H
    go_enter Try.func10, Try.ntmps10
    go_upto_region 3 with (first | ((with_reducible refine gate_callee (f := 25) rfl ?_); refine goesL_ (some 18) rfl rfl Try.func25 (by kernel_rfl) rfl #[] rfl (by (try simp only [List.map_toArray, List.map_cons, List.map_nil]); first | done | rfl | (simp only [List.length_drop, List.length_take]; rfl)) ?_; (with_reducible refine (lombardlaw06_alive.calls k  true _ A3.out).mono ?_); rintro e w6 ⟨rfl, hb⟩; refine ⟨_, rfl, ?_⟩; have n0_ := Aside0.mk (below_step (by repeat (first | (with_reducible first | exact HB.out | apply below_alloc | apply pw_below_drewN | apply below_drew1) | exact HB.out)) hb); clear HB; have HB := n0_; clear n0_; (try clear hb); (try clear hb2); (try clear hk); (try clear hi)))
    (try simp only [Act.put, List.setIfInBounds_toArray, List.set_cons_zero, List.set_cons_succ])
    go_cut [30] (fun v30 wc => ∃ (kq : Nat) (x30_4 : Bool), v30 = .bool x30_4 ∧ Aside0 (lombardlaw06_PeriodWorks.j0 kq a0 l1 x30_4 = some r) ∧ Aside0 (kq ≤ k) ∧ Aside0 (Below w.heap.size w wc))
    case first =>
      have H := HC5.out
      clear HC5
      by_cases c7 : (l1.length : Int) > 600
      · rw [if_pos c7] at H
        have c7b0 : decide (600 < (l1.length : Int)) = true := decide_eq_true c7
        have c7b1 : decide (600 < l1.length) = true := decide_eq_true (by omega)
        clear c7
        (first | rw [c7b0] | (simp only [i64_w, i32_w]; rw [c7b0]) | skip)
        have H' := Aside0.mk H
        clear H
        go_wp2
        go_meet
        case rel => exact ⟨_, (true), (by first | rfl | (simp; done) | (simp [*]; done)), H', ⟨by first | omega | exact Nat.le_refl _⟩, ⟨by repeat (first | (with_reducible first | exact HB.out | apply below_alloc | apply pw_below_drewN | apply below_drew1) | exact HB.out)⟩⟩
      · rw [if_neg c7] at H
        have c7b0 : decide (600 < (l1.length : Int)) = false := decide_eq_false c7
        have c7b1 : decide (600 < l1.length) = false := decide_eq_false (by omega)
        clear c7
        (first | rw [c7b0] | (simp only [i64_w, i32_w]; rw [c7b0]) | skip)
        by_cases c8 : a0 < 10000
        · rw [if_pos c8] at H
          have c8b0 : decide (a0 < 10000) = true := decide_eq_true c8
          clear c8
          have H' := Aside0.mk H
          clear H
          go_wp2
          go_meet
          case rel => exact ⟨_, (true), (by first | rfl | (simp; done) | (simp [*]; done)), H', ⟨by first | omega | exact Nat.le_refl _⟩, ⟨by repeat (first | (with_reducible first | exact HB.out | apply below_alloc | apply pw_below_drewN | apply below_drew1) | exact HB.out)⟩⟩
        · rw [if_neg c8] at H
          have c8b0 : decide (a0 < 10000) = false := decide_eq_false c8
          clear c8
          have H' := Aside0.mk H
          clear H
          go_wp2
          go_meet
          case rel => exact ⟨_, (decide (a0 > 3600000)), (by first | rfl | (simp; done) | (simp [*]; done)), H', ⟨by first | omega | exact Nat.le_refl _⟩, ⟨by repeat (first | (with_reducible first | exact HB.out | apply below_alloc | apply pw_below_drewN | apply below_drew1) | exact HB.out)⟩⟩
    case rest =>
      clear HC5
      try clear c1
      try clear c2
      try clear p2
      try clear c4
      try clear c7
      try clear c7b0
      try clear c7b1
      try clear c8
      try clear c8b0
      obtain ⟨kq, x30_4, rfl, HA, HJ4, HB⟩ := hcut
      cases kq with
      | zero => exact absurd HA.out (by simp [lombardlaw06_PeriodWorks.j0])
      | succ kj4 =>
        have H := HA.out
        clear HA
        simp only [lombardlaw06_PeriodWorks.j0] at H
        by_cases c9 : x30_4 = true
        · subst c9
          have H1 : (some true) = some r := by rw [if_pos rfl] at H; exact H
          clear H
          have H := H1
          clear H1
          obtain rfl := Option.some.inj H
          go_wp2
          go_ret
          exact ⟨by first | rfl | (simp [errW_none, errW_some] <;> rfl) | (simp [*, errW_none, errW_some] <;> rfl), by repeat (first | (with_reducible first | exact HB.out | apply below_alloc | apply pw_below_drewN | apply below_drew1) | exact HB.out)⟩
        · replace c9 := Bool.eq_false_iff.mpr c9
          subst c9
          have H1 : ((period_Roll.f kj4 a0 1 l1).bind fun bt323 => ((period_Roll.f kj4 a0 3 l1).bind fun bt325 => ((period_Roll.f kj4 a0 2 l1).bind fun bt327 => ((period_Roll.f kj4 a0 0 l1).bind fun bt329 => (if bt323.2 = 0 then (if bt325.2 = 0 then (if bt327.2 = 0 then (if bt329.2 = 0 then (if bt329.1 = a0 then ((period_Works.f kj4 bt323.1 l1).bind fun t331 => (if t331 = true then ((period_Works.f kj4 bt325.1 l1).bind fun t332 => (if t332 = true then (if bt323.1 < a0 then (lombardlaw06_PeriodWorks.j1 kj4 a0 l1 bt323.1 bt325.1 bt327.1 true) else (if bt325.1 > a0 then (lombardlaw06_PeriodWorks.j1 kj4 a0 l1 bt323.1 bt325.1 bt327.1 true) else (if bt327.1 = bt323.1 then (lombardlaw06_PeriodWorks.j1 kj4 a0 l1 bt323.1 bt325.1 bt327.1 false) else (lombardlaw06_PeriodWorks.j1 kj4 a0 l1 bt323.1 bt325.1 bt327.1 (bt327.1 != bt325.1))))) else (lombardlaw06_PeriodWorks.j1 kj4 a0 l1 bt323.1 bt325.1 bt327.1 true))) else (lombardlaw06_PeriodWorks.j1 kj4 a0 l1 bt323.1 bt325.1 bt327.1 true))) else (lombardlaw06_PeriodWorks.j1 kj4 a0 l1 bt323.1 bt325.1 bt327.1 true)) else (lombardlaw06_PeriodWorks.j1 kj4 a0 l1 bt323.1 bt325.1 bt327.1 true)) else (lombardlaw06_PeriodWorks.j1 kj4 a0 l1 bt323.1 bt325.1 bt327.1 true)) else (lombardlaw06_PeriodWorks.j1 kj4 a0 l1 bt323.1 bt325.1 bt327.1 true)) else (lombardlaw06_PeriodWorks.j1 kj4 a0 l1 bt323.1 bt325.1 bt327.1 true)))))) = some r := by rw [if_neg (show ¬ (false = true) by decide)] at H; exact H
          clear H
          have H := H1
          clear H1
          replace H := Option.bind_eq_some_iff.mp H
          obtain ⟨⟨t323, t324⟩, A100, H⟩ := H
          replace H : ((period_Roll.f kj4 a0 3 l1).bind fun bt325 => ((period_Roll.f kj4 a0 2 l1).bind fun bt327 => ((period_Roll.f kj4 a0 0 l1).bind fun bt329 => (if t324 = 0 then (if bt325.2 = 0 then (if bt327.2 = 0 then (if bt329.2 = 0 then (if bt329.1 = a0 then ((period_Works.f kj4 t323 l1).bind fun t331 => (if t331 = true then ((period_Works.f kj4 bt325.1 l1).bind fun t332 => (if t332 = true then (if t323 < a0 then (lombardlaw06_PeriodWorks.j1 kj4 a0 l1 t323 bt325.1 bt327.1 true) else (if bt325.1 > a0 then (lombardlaw06_PeriodWorks.j1 kj4 a0 l1 t323 bt325.1 bt327.1 true) else (if bt327.1 = t323 then (lombardlaw06_PeriodWorks.j1 kj4 a0 l1 t323 bt325.1 bt327.1 false) else (lombardlaw06_PeriodWorks.j1 kj4 a0 l1 t323 bt325.1 bt327.1 (bt327.1 != bt325.1))))) else (lombardlaw06_PeriodWorks.j1 kj4 a0 l1 t323 bt325.1 bt327.1 true))) else (lombardlaw06_PeriodWorks.j1 kj4 a0 l1 t323 bt325.1 bt327.1 true))) else (lombardlaw06_PeriodWorks.j1 kj4 a0 l1 t323 bt325.1 bt327.1 true)) else (lombardlaw06_PeriodWorks.j1 kj4 a0 l1 t323 bt325.1 bt327.1 true)) else (lombardlaw06_PeriodWorks.j1 kj4 a0 l1 t323 bt325.1 bt327.1 true)) else (lombardlaw06_PeriodWorks.j1 kj4 a0 l1 t323 bt325.1 bt327.1 true)) else (lombardlaw06_PeriodWorks.j1 kj4 a0 l1 t323 bt325.1 bt327.1 true))))) = some r := H
          have A10 := Aside0.mk A100
          clear A100
          replace H := Option.bind_eq_some_iff.mp H
          obtain ⟨⟨t325, t326⟩, A110, H⟩ := H
          replace H : ((period_Roll.f kj4 a0 2 l1).bind fun bt327 => ((period_Roll.f kj4 a0 0 l1).bind fun bt329 => (if t324 = 0 then (if t326 = 0 then (if bt327.2 = 0 then (if bt329.2 = 0 then (if bt329.1 = a0 then ((period_Works.f kj4 t323 l1).bind fun t331 => (if t331 = true then ((period_Works.f kj4 t325 l1).bind fun t332 => (if t332 = true then (if t323 < a0 then (lombardlaw06_PeriodWorks.j1 kj4 a0 l1 t323 t325 bt327.1 true) else (if t325 > a0 then (lombardlaw06_PeriodWorks.j1 kj4 a0 l1 t323 t325 bt327.1 true) else (if bt327.1 = t323 then (lombardlaw06_PeriodWorks.j1 kj4 a0 l1 t323 t325 bt327.1 false) else (lombardlaw06_PeriodWorks.j1 kj4 a0 l1 t323 t325 bt327.1 (bt327.1 != t325))))) else (lombardlaw06_PeriodWorks.j1 kj4 a0 l1 t323 t325 bt327.1 true))) else (lombardlaw06_PeriodWorks.j1 kj4 a0 l1 t323 t325 bt327.1 true))) else (lombardlaw06_PeriodWorks.j1 kj4 a0 l1 t323 t325 bt327.1 true)) else (lombardlaw06_PeriodWorks.j1 kj4 a0 l1 t323 t325 bt327.1 true)) else (lombardlaw06_PeriodWorks.j1 kj4 a0 l1 t323 t325 bt327.1 true)) else (lombardlaw06_PeriodWorks.j1 kj4 a0 l1 t323 t325 bt327.1 true)) else (lombardlaw06_PeriodWorks.j1 kj4 a0 l1 t323 t325 bt327.1 true)))) = some r := H
          have A11 := Aside0.mk A110
          clear A110
          replace H := Option.bind_eq_some_iff.mp H
          obtain ⟨⟨t327, t328⟩, A120, H⟩ := H
          replace H : ((period_Roll.f kj4 a0 0 l1).bind fun bt329 => (if t324 = 0 then (if t326 = 0 then (if t328 = 0 then (if bt329.2 = 0 then (if bt329.1 = a0 then ((period_Works.f kj4 t323 l1).bind fun t331 => (if t331 = true then ((period_Works.f kj4 t325 l1).bind fun t332 => (if t332 = true then (if t323 < a0 then (lombardlaw06_PeriodWorks.j1 kj4 a0 l1 t323 t325 t327 true) else (if t325 > a0 then (lombardlaw06_PeriodWorks.j1 kj4 a0 l1 t323 t325 t327 true) else (if t327 = t323 then (lombardlaw06_PeriodWorks.j1 kj4 a0 l1 t323 t325 t327 false) else (lombardlaw06_PeriodWorks.j1 kj4 a0 l1 t323 t325 t327 (t327 != t325))))) else (lombardlaw06_PeriodWorks.j1 kj4 a0 l1 t323 t325 t327 true))) else (lombardlaw06_PeriodWorks.j1 kj4 a0 l1 t323 t325 t327 true))) else (lombardlaw06_PeriodWorks.j1 kj4 a0 l1 t323 t325 t327 true)) else (lombardlaw06_PeriodWorks.j1 kj4 a0 l1 t323 t325 t327 true)) else (lombardlaw06_PeriodWorks.j1 kj4 a0 l1 t323 t325 t327 true)) else (lombardlaw06_PeriodWorks.j1 kj4 a0 l1 t323 t325 t327 true)) else (lombardlaw06_PeriodWorks.j1 kj4 a0 l1 t323 t325 t327 true))) = some r := H
          have A12 := Aside0.mk A120
          clear A120
          replace H := Option.bind_eq_some_iff.mp H
          obtain ⟨⟨t329, t330⟩, A130, H⟩ := H
          replace H : (if t324 = 0 then (if t326 = 0 then (if t328 = 0 then (if t330 = 0 then (if t329 = a0 then ((period_Works.f kj4 t323 l1).bind fun t331 => (if t331 = true then ((period_Works.f kj4 t325 l1).bind fun t332 => (if t332 = true then (if t323 < a0 then (lombardlaw06_PeriodWorks.j1 kj4 a0 l1 t323 t325 t327 true) else (if t325 > a0 then (lombardlaw06_PeriodWorks.j1 kj4 a0 l1 t323 t325 t327 true) else (if t327 = t323 then (lombardlaw06_PeriodWorks.j1 kj4 a0 l1 t323 t325 t327 false) else (lombardlaw06_PeriodWorks.j1 kj4 a0 l1 t323 t325 t327 (t327 != t325))))) else (lombardlaw06_PeriodWorks.j1 kj4 a0 l1 t323 t325 t327 true))) else (lombardlaw06_PeriodWorks.j1 kj4 a0 l1 t323 t325 t327 true))) else (lombardlaw06_PeriodWorks.j1 kj4 a0 l1 t323 t325 t327 true)) else (lombardlaw06_PeriodWorks.j1 kj4 a0 l1 t323 t325 t327 true)) else (lombardlaw06_PeriodWorks.j1 kj4 a0 l1 t323 t325 t327 true)) else (lombardlaw06_PeriodWorks.j1 kj4 a0 l1 t323 t325 t327 true)) else (lombardlaw06_PeriodWorks.j1 kj4 a0 l1 t323 t325 t327 true)) = some r := H
          have A13 := Aside0.mk A130
          clear A130
          have HC14 := Aside0.mk H
          clear H
          go_upto_region 9 with (first | ((with_reducible refine gate_callee (f := 26) rfl ?_); refine goesL_ (some 34) rfl rfl Try.func26 (by kernel_rfl) rfl #[.int .i64 a0, .int .i64 1, .slice A1 l1.length c1] rfl (by (try simp only [List.map_toArray, List.map_cons, List.map_nil]); first | done | rfl | (simp only [List.length_drop, List.length_take]; rfl)) ?_; (with_reducible refine (period_Roll.calls kj4 a0 1 _ _ l1 t323 t324 _ ?side1 ?side2 A10.out).mono ?_); (case side1 => repeat (first | exact (Kd.C_below HR1.out HB.out) | (with_reducible refine Kd.C_alloc ?_ _) | (with_reducible refine Kd.C_drewN ?_ _) | (with_reducible refine Kd.C_drew ?_))); (case side2 => exact HC1.out); rintro e w15 ⟨rfl, hb⟩; refine ⟨_, rfl, ?_⟩; have n0_ := Aside0.mk (below_step (by repeat (first | (with_reducible first | exact HB.out | apply below_alloc | apply pw_below_drewN | apply below_drew1) | exact HB.out)) hb); clear HB; have HB := n0_; clear n0_; (try clear hb); (try clear hb2); (try clear hk); (try clear hi)) | ((with_reducible refine gate_callee (f := 26) rfl ?_); refine goesL_ (some 40) rfl rfl Try.func26 (by kernel_rfl) rfl #[.int .i64 a0, .int .i64 3, .slice A1 l1.length c1] rfl (by (try simp only [List.map_toArray, List.map_cons, List.map_nil]); first | done | rfl | (simp only [List.length_drop, List.length_take]; rfl)) ?_; (with_reducible refine (period_Roll.calls kj4 a0 3 _ _ l1 t325 t326 _ ?side1 ?side2 A11.out).mono ?_); (case side1 => repeat (first | exact (Kd.C_below HR1.out HB.out) | (with_reducible refine Kd.C_alloc ?_ _) | (with_reducible refine Kd.C_drewN ?_ _) | (with_reducible refine Kd.C_drew ?_))); (case side2 => exact HC1.out); rintro e w16 ⟨rfl, hb⟩; refine ⟨_, rfl, ?_⟩; have n0_ := Aside0.mk (below_step (by repeat (first | (with_reducible first | exact HB.out | apply below_alloc | apply pw_below_drewN | apply below_drew1) | exact HB.out)) hb); clear HB; have HB := n0_; clear n0_; (try clear hb); (try clear hb2); (try clear hk); (try clear hi)) | ((with_reducible refine gate_callee (f := 26) rfl ?_); refine goesL_ (some 46) rfl rfl Try.func26 (by kernel_rfl) rfl #[.int .i64 a0, .int .i64 2, .slice A1 l1.length c1] rfl (by (try simp only [List.map_toArray, List.map_cons, List.map_nil]); first | done | rfl | (simp only [List.length_drop, List.length_take]; rfl)) ?_; (with_reducible refine (period_Roll.calls kj4 a0 2 _ _ l1 t327 t328 _ ?side1 ?side2 A12.out).mono ?_); (case side1 => repeat (first | exact (Kd.C_below HR1.out HB.out) | (with_reducible refine Kd.C_alloc ?_ _) | (with_reducible refine Kd.C_drewN ?_ _) | (with_reducible refine Kd.C_drew ?_))); (case side2 => exact HC1.out); rintro e w17 ⟨rfl, hb⟩; refine ⟨_, rfl, ?_⟩; have n0_ := Aside0.mk (below_step (by repeat (first | (with_reducible first | exact HB.out | apply below_alloc | apply pw_below_drewN | apply below_drew1) | exact HB.out)) hb); clear HB; have HB := n0_; clear n0_; (try clear hb); (try clear hb2); (try clear hk); (try clear hi)) | ((with_reducible refine gate_callee (f := 26) rfl ?_); refine goesL_ (some 52) rfl rfl Try.func26 (by kernel_rfl) rfl #[.int .i64 a0, .int .i64 0, .slice A1 l1.length c1] rfl (by (try simp only [List.map_toArray, List.map_cons, List.map_nil]); first | done | rfl | (simp only [List.length_drop, List.length_take]; rfl)) ?_; (with_reducible refine (period_Roll.calls kj4 a0 0 _ _ l1 t329 t330 _ ?side1 ?side2 A13.out).mono ?_); (case side1 => repeat (first | exact (Kd.C_below HR1.out HB.out) | (with_reducible refine Kd.C_alloc ?_ _) | (with_reducible refine Kd.C_drewN ?_ _) | (with_reducible refine Kd.C_drew ?_))); (case side2 => exact HC1.out); rintro e w18 ⟨rfl, hb⟩; refine ⟨_, rfl, ?_⟩; have n0_ := Aside0.mk (below_step (by repeat (first | (with_reducible first | exact HB.out | apply below_alloc | apply pw_below_drewN | apply below_drew1) | exact HB.out)) hb); clear HB; have HB := n0_; clear n0_; (try clear hb); (try clear hb2); (try clear hk); (try clear hi)))
          (try simp only [Act.put, List.setIfInBounds_toArray, List.set_cons_zero, List.set_cons_succ])
          go_cut [105] (fun v105 wc => ∃ (kq : Nat) (x105_13 : Bool), v105 = .bool x105_13 ∧ Aside0 (lombardlaw06_PeriodWorks.j1 kq a0 l1 t323 t325 t327 x105_13 = some r) ∧ Aside0 (kq ≤ kj4) ∧ Aside0 (Below w.heap.size w wc))
          case first =>
            have H := HC14.out
            clear HC14
            by_cases c19 : t324 = 0
            · rw [if_pos c19] at H
              have c19b0 : (t324 == 0) = true := beq_iff_eq.mpr c19
              have c19b1 : (t324 != 0) = false := bne_eq_false_iff_eq.mpr c19
              clear c19
              (first | rw [c19b0] | (simp only [i64_w, i32_w]; rw [c19b0]) | skip)
              by_cases c20 : t326 = 0
              · rw [if_pos c20] at H
                have c20b0 : (t326 == 0) = true := beq_iff_eq.mpr c20
                have c20b1 : (t326 != 0) = false := bne_eq_false_iff_eq.mpr c20
                clear c20
                by_cases c21 : t328 = 0
                · rw [if_pos c21] at H
                  have c21b0 : (t328 == 0) = true := beq_iff_eq.mpr c21
                  have c21b1 : (t328 != 0) = false := bne_eq_false_iff_eq.mpr c21
                  clear c21
                  by_cases c22 : t330 = 0
                  · rw [if_pos c22] at H
                    have c22b0 : (t330 == 0) = true := beq_iff_eq.mpr c22
                    have c22b1 : (t330 != 0) = false := bne_eq_false_iff_eq.mpr c22
                    clear c22
                    by_cases c23 : t329 = a0
                    · rw [if_pos c23] at H
                      have c23b0 : (t329 == a0) = true := beq_iff_eq.mpr c23
                      have c23b1 : (t329 != a0) = false := bne_eq_false_iff_eq.mpr c23
                      clear c23
                      replace H := Option.bind_eq_some_iff.mp H
                      obtain ⟨t331, A240, H⟩ := H
                      replace H : (if t331 = true then ((period_Works.f kj4 t325 l1).bind fun t332 => (if t332 = true then (if t323 < a0 then (lombardlaw06_PeriodWorks.j1 kj4 a0 l1 t323 t325 t327 true) else (if t325 > a0 then (lombardlaw06_PeriodWorks.j1 kj4 a0 l1 t323 t325 t327 true) else (if t327 = t323 then (lombardlaw06_PeriodWorks.j1 kj4 a0 l1 t323 t325 t327 false) else (lombardlaw06_PeriodWorks.j1 kj4 a0 l1 t323 t325 t327 (t327 != t325))))) else (lombardlaw06_PeriodWorks.j1 kj4 a0 l1 t323 t325 t327 true))) else (lombardlaw06_PeriodWorks.j1 kj4 a0 l1 t323 t325 t327 true)) = some r := H
                      have A24 := Aside0.mk A240
                      clear A240
                      by_cases c25 : t331 = true
                      · subst c25
                        have H1 : ((period_Works.f kj4 t325 l1).bind fun t332 => (if t332 = true then (if t323 < a0 then (lombardlaw06_PeriodWorks.j1 kj4 a0 l1 t323 t325 t327 true) else (if t325 > a0 then (lombardlaw06_PeriodWorks.j1 kj4 a0 l1 t323 t325 t327 true) else (if t327 = t323 then (lombardlaw06_PeriodWorks.j1 kj4 a0 l1 t323 t325 t327 false) else (lombardlaw06_PeriodWorks.j1 kj4 a0 l1 t323 t325 t327 (t327 != t325))))) else (lombardlaw06_PeriodWorks.j1 kj4 a0 l1 t323 t325 t327 true))) = some r := by rw [if_pos rfl] at H; exact H
                        clear H
                        have H := H1
                        clear H1
                        replace H := Option.bind_eq_some_iff.mp H
                        obtain ⟨t332, A260, H⟩ := H
                        replace H : (if t332 = true then (if t323 < a0 then (lombardlaw06_PeriodWorks.j1 kj4 a0 l1 t323 t325 t327 true) else (if t325 > a0 then (lombardlaw06_PeriodWorks.j1 kj4 a0 l1 t323 t325 t327 true) else (if t327 = t323 then (lombardlaw06_PeriodWorks.j1 kj4 a0 l1 t323 t325 t327 false) else (lombardlaw06_PeriodWorks.j1 kj4 a0 l1 t323 t325 t327 (t327 != t325))))) else (lombardlaw06_PeriodWorks.j1 kj4 a0 l1 t323 t325 t327 true)) = some r := H
                        have A26 := Aside0.mk A260
                        clear A260
                        by_cases c27 : t332 = true
                        · subst c27
                          have H1 : (if t323 < a0 then (lombardlaw06_PeriodWorks.j1 kj4 a0 l1 t323 t325 t327 true) else (if t325 > a0 then (lombardlaw06_PeriodWorks.j1 kj4 a0 l1 t323 t325 t327 true) else (if t327 = t323 then (lombardlaw06_PeriodWorks.j1 kj4 a0 l1 t323 t325 t327 false) else (lombardlaw06_PeriodWorks.j1 kj4 a0 l1 t323 t325 t327 (t327 != t325))))) = some r := by rw [if_pos rfl] at H; exact H
                          clear H
                          have H := H1
                          clear H1
                          by_cases c28 : t323 < a0
                          · rw [if_pos c28] at H
                            have c28b0 : decide (t323 < a0) = true := decide_eq_true c28
                            clear c28
                            have H' := Aside0.mk H
                            clear H
                            go_wp2_with (first | (go_at_call 28; (with_reducible refine (period_Works.calls kj4 t323 _ _ l1 true _ ?side1 ?side2 A24.out).mono ?_); (case side1 => repeat (first | exact (Kd.C_below HR1.out HB.out) | (with_reducible refine Kd.C_alloc ?_ _) | (with_reducible refine Kd.C_drewN ?_ _) | (with_reducible refine Kd.C_drew ?_))); (case side2 => exact HC1.out); rintro e w' ⟨rfl, ⟨nd, rfl⟩⟩) | (go_at_call 28; (with_reducible refine (period_Works.calls kj4 t325 _ _ l1 true _ ?side1 ?side2 A26.out).mono ?_); (case side1 => repeat (first | exact (Kd.C_below HR1.out (by repeat (first | (with_reducible first | exact HB.out | apply below_alloc | apply pw_below_drewN | apply below_drew1) | exact HB.out))) | (with_reducible refine Kd.C_alloc ?_ _) | (with_reducible refine Kd.C_drewN ?_ _) | (with_reducible refine Kd.C_drew ?_))); (case side2 => exact HC1.out); rintro e w' ⟨rfl, ⟨nd, rfl⟩⟩))
                            go_meet
                            case rel => exact ⟨_, (true), (by first | rfl | (simp; done) | (simp [*]; done)), H', ⟨by have := HJ4.out; first | omega | exact Nat.le_refl _⟩, ⟨by repeat (first | (with_reducible first | exact HB.out | apply below_alloc | apply pw_below_drewN | apply below_drew1) | exact HB.out)⟩⟩
                          · rw [if_neg c28] at H
                            have c28b0 : decide (t323 < a0) = false := decide_eq_false c28
                            clear c28
                            by_cases c29 : t325 > a0
                            · rw [if_pos c29] at H
                              have c29b0 : decide (a0 < t325) = true := decide_eq_true c29
                              clear c29
                              have H' := Aside0.mk H
                              clear H
                              go_wp2_with (first | (go_at_call 28; (with_reducible refine (period_Works.calls kj4 t323 _ _ l1 true _ ?side1 ?side2 A24.out).mono ?_); (case side1 => repeat (first | exact (Kd.C_below HR1.out HB.out) | (with_reducible refine Kd.C_alloc ?_ _) | (with_reducible refine Kd.C_drewN ?_ _) | (with_reducible refine Kd.C_drew ?_))); (case side2 => exact HC1.out); rintro e w' ⟨rfl, ⟨nd, rfl⟩⟩) | (go_at_call 28; (with_reducible refine (period_Works.calls kj4 t325 _ _ l1 true _ ?side1 ?side2 A26.out).mono ?_); (case side1 => repeat (first | exact (Kd.C_below HR1.out (by repeat (first | (with_reducible first | exact HB.out | apply below_alloc | apply pw_below_drewN | apply below_drew1) | exact HB.out))) | (with_reducible refine Kd.C_alloc ?_ _) | (with_reducible refine Kd.C_drewN ?_ _) | (with_reducible refine Kd.C_drew ?_))); (case side2 => exact HC1.out); rintro e w' ⟨rfl, ⟨nd, rfl⟩⟩))
                              go_meet
                              case rel => exact ⟨_, (true), (by first | rfl | (simp; done) | (simp [*]; done)), H', ⟨by have := HJ4.out; first | omega | exact Nat.le_refl _⟩, ⟨by repeat (first | (with_reducible first | exact HB.out | apply below_alloc | apply pw_below_drewN | apply below_drew1) | exact HB.out)⟩⟩
                            · rw [if_neg c29] at H
                              have c29b0 : decide (a0 < t325) = false := decide_eq_false c29
                              clear c29
                              by_cases c30 : t327 = t323
                              · rw [if_pos c30] at H
                                have c30b0 : (t327 == t323) = true := beq_iff_eq.mpr c30
                                have c30b1 : (t327 != t323) = false := bne_eq_false_iff_eq.mpr c30
                                clear c30
                                have H' := Aside0.mk H
                                clear H
                                go_wp2_with (first | (go_at_call 28; (with_reducible refine (period_Works.calls kj4 t323 _ _ l1 true _ ?side1 ?side2 A24.out).mono ?_); (case side1 => repeat (first | exact (Kd.C_below HR1.out HB.out) | (with_reducible refine Kd.C_alloc ?_ _) | (with_reducible refine Kd.C_drewN ?_ _) | (with_reducible refine Kd.C_drew ?_))); (case side2 => exact HC1.out); rintro e w' ⟨rfl, ⟨nd, rfl⟩⟩) | (go_at_call 28; (with_reducible refine (period_Works.calls kj4 t325 _ _ l1 true _ ?side1 ?side2 A26.out).mono ?_); (case side1 => repeat (first | exact (Kd.C_below HR1.out (by repeat (first | (with_reducible first | exact HB.out | apply below_alloc | apply pw_below_drewN | apply below_drew1) | exact HB.out))) | (with_reducible refine Kd.C_alloc ?_ _) | (with_reducible refine Kd.C_drewN ?_ _) | (with_reducible refine Kd.C_drew ?_))); (case side2 => exact HC1.out); rintro e w' ⟨rfl, ⟨nd, rfl⟩⟩))
                                go_meet
                                case rel => exact ⟨_, (false), (by first | rfl | (simp; done) | (simp [*]; done)), H', ⟨by have := HJ4.out; first | omega | exact Nat.le_refl _⟩, ⟨by repeat (first | (with_reducible first | exact HB.out | apply below_alloc | apply pw_below_drewN | apply below_drew1) | exact HB.out)⟩⟩
                              · rw [if_neg c30] at H
                                have c30b0 : (t327 == t323) = false := beq_eq_false_iff_ne.mpr c30
                                have c30b1 : (t327 != t323) = true := bne_iff_ne.mpr c30
                                have H' := Aside0.mk H
                                clear H
                                go_wp2_with (first | (go_at_call 28; (with_reducible refine (period_Works.calls kj4 t323 _ _ l1 true _ ?side1 ?side2 A24.out).mono ?_); (case side1 => repeat (first | exact (Kd.C_below HR1.out HB.out) | (with_reducible refine Kd.C_alloc ?_ _) | (with_reducible refine Kd.C_drewN ?_ _) | (with_reducible refine Kd.C_drew ?_))); (case side2 => exact HC1.out); rintro e w' ⟨rfl, ⟨nd, rfl⟩⟩) | (go_at_call 28; (with_reducible refine (period_Works.calls kj4 t325 _ _ l1 true _ ?side1 ?side2 A26.out).mono ?_); (case side1 => repeat (first | exact (Kd.C_below HR1.out (by repeat (first | (with_reducible first | exact HB.out | apply below_alloc | apply pw_below_drewN | apply below_drew1) | exact HB.out))) | (with_reducible refine Kd.C_alloc ?_ _) | (with_reducible refine Kd.C_drewN ?_ _) | (with_reducible refine Kd.C_drew ?_))); (case side2 => exact HC1.out); rintro e w' ⟨rfl, ⟨nd, rfl⟩⟩))
                                go_meet
                                case rel => exact ⟨_, ((t327 != t325)), (by first | rfl | (simp; done) | (simp [*]; done)), H', ⟨by have := HJ4.out; first | omega | exact Nat.le_refl _⟩, ⟨by repeat (first | (with_reducible first | exact HB.out | apply below_alloc | apply pw_below_drewN | apply below_drew1) | exact HB.out)⟩⟩
                        · replace c27 := Bool.eq_false_iff.mpr c27
                          subst c27
                          have H1 : (lombardlaw06_PeriodWorks.j1 kj4 a0 l1 t323 t325 t327 true) = some r := by rw [if_neg (show ¬ (false = true) by decide)] at H; exact H
                          clear H
                          have H := H1
                          clear H1
                          have H' := Aside0.mk H
                          clear H
                          go_wp2_with (first | (go_at_call 28; (with_reducible refine (period_Works.calls kj4 t323 _ _ l1 true _ ?side1 ?side2 A24.out).mono ?_); (case side1 => repeat (first | exact (Kd.C_below HR1.out HB.out) | (with_reducible refine Kd.C_alloc ?_ _) | (with_reducible refine Kd.C_drewN ?_ _) | (with_reducible refine Kd.C_drew ?_))); (case side2 => exact HC1.out); rintro e w' ⟨rfl, ⟨nd, rfl⟩⟩) | (go_at_call 28; (with_reducible refine (period_Works.calls kj4 t325 _ _ l1 false _ ?side1 ?side2 A26.out).mono ?_); (case side1 => repeat (first | exact (Kd.C_below HR1.out (by repeat (first | (with_reducible first | exact HB.out | apply below_alloc | apply pw_below_drewN | apply below_drew1) | exact HB.out))) | (with_reducible refine Kd.C_alloc ?_ _) | (with_reducible refine Kd.C_drewN ?_ _) | (with_reducible refine Kd.C_drew ?_))); (case side2 => exact HC1.out); rintro e w' ⟨rfl, ⟨nd, rfl⟩⟩))
                          go_meet
                          case rel => exact ⟨_, (true), (by first | rfl | (simp; done) | (simp [*]; done)), H', ⟨by have := HJ4.out; first | omega | exact Nat.le_refl _⟩, ⟨by repeat (first | (with_reducible first | exact HB.out | apply below_alloc | apply pw_below_drewN | apply below_drew1) | exact HB.out)⟩⟩
                      · replace c25 := Bool.eq_false_iff.mpr c25
                        subst c25
                        have H1 : (lombardlaw06_PeriodWorks.j1 kj4 a0 l1 t323 t325 t327 true) = some r := by rw [if_neg (show ¬ (false = true) by decide)] at H; exact H
                        clear H
                        have H := H1
                        clear H1
                        have H' := Aside0.mk H
                        clear H
                        go_wp2_with (first | (go_at_call 28; (with_reducible refine (period_Works.calls kj4 t323 _ _ l1 false _ ?side1 ?side2 A24.out).mono ?_); (case side1 => repeat (first | exact (Kd.C_below HR1.out HB.out) | (with_reducible refine Kd.C_alloc ?_ _) | (with_reducible refine Kd.C_drewN ?_ _) | (with_reducible refine Kd.C_drew ?_))); (case side2 => exact HC1.out); rintro e w' ⟨rfl, ⟨nd, rfl⟩⟩))
                        go_meet
                        case rel => exact ⟨_, (true), (by first | rfl | (simp; done) | (simp [*]; done)), H', ⟨by have := HJ4.out; first | omega | exact Nat.le_refl _⟩, ⟨by repeat (first | (with_reducible first | exact HB.out | apply below_alloc | apply pw_below_drewN | apply below_drew1) | exact HB.out)⟩⟩
                    · rw [if_neg c23] at H
                      have c23b0 : (t329 == a0) = false := beq_eq_false_iff_ne.mpr c23
                      have c23b1 : (t329 != a0) = true := bne_iff_ne.mpr c23
                      have H' := Aside0.mk H
                      clear H
                      go_wp2
                      go_meet
                      case rel => exact ⟨_, (true), (by first | rfl | (simp; done) | (simp [*]; done)), H', ⟨by have := HJ4.out; first | omega | exact Nat.le_refl _⟩, ⟨by repeat (first | (with_reducible first | exact HB.out | apply below_alloc | apply pw_below_drewN | apply below_drew1) | exact HB.out)⟩⟩
                  · rw [if_neg c22] at H
                    have c22b0 : (t330 == 0) = false := beq_eq_false_iff_ne.mpr c22
                    have c22b1 : (t330 != 0) = true := bne_iff_ne.mpr c22
                    have H' := Aside0.mk H
                    clear H
                    go_wp2
                    go_meet
                    case rel => exact ⟨_, (true), (by first | rfl | (simp; done) | (simp [*]; done)), H', ⟨by have := HJ4.out; first | omega | exact Nat.le_refl _⟩, ⟨by repeat (first | (with_reducible first | exact HB.out | apply below_alloc | apply pw_below_drewN | apply below_drew1) | exact HB.out)⟩⟩
                · rw [if_neg c21] at H
                  have c21b0 : (t328 == 0) = false := beq_eq_false_iff_ne.mpr c21
                  have c21b1 : (t328 != 0) = true := bne_iff_ne.mpr c21
                  have H' := Aside0.mk H
                  clear H
                  go_wp2
                  go_meet
                  case rel => exact ⟨_, (true), (by first | rfl | (simp; done) | (simp [*]; done)), H', ⟨by have := HJ4.out; first | omega | exact Nat.le_refl _⟩, ⟨by repeat (first | (with_reducible first | exact HB.out | apply below_alloc | apply pw_below_drewN | apply below_drew1) | exact HB.out)⟩⟩
              · rw [if_neg c20] at H
                have c20b0 : (t326 == 0) = false := beq_eq_false_iff_ne.mpr c20
                have c20b1 : (t326 != 0) = true := bne_iff_ne.mpr c20
                have H' := Aside0.mk H
                clear H
                go_wp2
                go_meet
                case rel => exact ⟨_, (true), (by first | rfl | (simp; done) | (simp [*]; done)), H', ⟨by have := HJ4.out; first | omega | exact Nat.le_refl _⟩, ⟨by repeat (first | (with_reducible first | exact HB.out | apply below_alloc | apply pw_below_drewN | apply below_drew1) | exact HB.out)⟩⟩
            · rw [if_neg c19] at H
              have c19b0 : (t324 == 0) = false := beq_eq_false_iff_ne.mpr c19
              have c19b1 : (t324 != 0) = true := bne_iff_ne.mpr c19
              (first | rw [c19b0] | (simp only [i64_w, i32_w]; rw [c19b0]) | skip)
              have H' := Aside0.mk H
              clear H
              go_wp2
              go_meet
              case rel => exact ⟨_, (true), (by first | rfl | (simp; done) | (simp [*]; done)), H', ⟨by have := HJ4.out; first | omega | exact Nat.le_refl _⟩, ⟨by repeat (first | (with_reducible first | exact HB.out | apply below_alloc | apply pw_below_drewN | apply below_drew1) | exact HB.out)⟩⟩
          case rest =>
            clear HC14
            try clear c1
            try clear c2
            try clear p2
            try clear c3
            try clear c4
            try clear c7
            try clear c7b0
            try clear c7b1
            try clear c8
            try clear c8b0
            try clear c9
            try clear c10
            try clear c19
            try clear c19b0
            try clear c19b1
            try clear c20
            try clear c20b0
            try clear c20b1
            try clear c21
            try clear c21b0
            try clear c21b1
            try clear c22
            try clear c22b0
            try clear c22b1
            try clear c23
            try clear c23b0
            try clear c23b1
            try clear c25
            try clear c26
            try clear c27
            try clear c28
            try clear c28b0
            try clear c29
            try clear c29b0
            try clear c30
            try clear c30b0
            try clear c30b1
            try clear p2
            obtain ⟨kq, x105_13, rfl, HA, HJ13, HB⟩ := hcut
            cases kq with
            | zero => exact absurd HA.out (by simp [lombardlaw06_PeriodWorks.j1])
            | succ kj13 =>
              have H := HA.out
              clear HA
              simp only [lombardlaw06_PeriodWorks.j1] at H
              by_cases c31 : x105_13 = true
              · subst c31
                have H1 : (some false) = some r := by rw [if_pos rfl] at H; exact H
                clear H
                have H := H1
                clear H1
                obtain rfl := Option.some.inj H
                go_wp2
                go_ret
                exact ⟨by first | rfl | (simp [errW_none, errW_some] <;> rfl) | (simp [*, errW_none, errW_some] <;> rfl), by repeat (first | (with_reducible first | exact HB.out | apply below_alloc | apply pw_below_drewN | apply below_drew1) | exact HB.out)⟩
              · replace c31 := Bool.eq_false_iff.mpr c31
                subst c31
                have H1 : ((period_Works.f kj13 a0 l1).bind fun t333 => (if t333 = true then (if t323 = a0 then (lombardlaw06_PeriodWorks.j2 kj13 a0 l1 t323 t325 t327 (t325 != a0)) else (lombardlaw06_PeriodWorks.j2 kj13 a0 l1 t323 t325 t327 true)) else (lombardlaw06_PeriodWorks.j2 kj13 a0 l1 t323 t325 t327 false))) = some r := by rw [if_neg (show ¬ (false = true) by decide)] at H; exact H
                clear H
                have H := H1
                clear H1
                have HC32 := Aside0.mk H
                clear H
                go_upto_region 11 with (fail)
                go_cut [118] (fun v118 wc => ∃ (kq : Nat) (x118_31 : Bool), v118 = .bool x118_31 ∧ Aside0 (lombardlaw06_PeriodWorks.j2 kq a0 l1 t323 t325 t327 x118_31 = some r) ∧ Aside0 (kq ≤ kj13) ∧ Aside0 (Below w.heap.size w wc))
                case first =>
                  have H := HC32.out
                  clear HC32
                  replace H := Option.bind_eq_some_iff.mp H
                  obtain ⟨t333, A330, H⟩ := H
                  replace H : (if t333 = true then (if t323 = a0 then (lombardlaw06_PeriodWorks.j2 kj13 a0 l1 t323 t325 t327 (t325 != a0)) else (lombardlaw06_PeriodWorks.j2 kj13 a0 l1 t323 t325 t327 true)) else (lombardlaw06_PeriodWorks.j2 kj13 a0 l1 t323 t325 t327 false)) = some r := H
                  have A33 := Aside0.mk A330
                  clear A330
                  by_cases c34 : t333 = true
                  · subst c34
                    have H1 : (if t323 = a0 then (lombardlaw06_PeriodWorks.j2 kj13 a0 l1 t323 t325 t327 (t325 != a0)) else (lombardlaw06_PeriodWorks.j2 kj13 a0 l1 t323 t325 t327 true)) = some r := by rw [if_pos rfl] at H; exact H
                    clear H
                    have H := H1
                    clear H1
                    by_cases c35 : t323 = a0
                    · rw [if_pos c35] at H
                      have c35b0 : (t323 == a0) = true := beq_iff_eq.mpr c35
                      have c35b1 : (t323 != a0) = false := bne_eq_false_iff_eq.mpr c35
                      clear c35
                      (first | rw [c35b0] | (simp only [i64_w, i32_w]; rw [c35b0]) | skip)
                      have H' := Aside0.mk H
                      clear H
                      go_wp2_with (first | ((with_reducible refine gate_callee (f := 28) rfl ?_); refine goesL_ (some 108) rfl rfl Try.func28 (by kernel_rfl) rfl #[.int .i64 a0, .slice A1 l1.length c1] rfl (by (try simp only [List.map_toArray, List.map_cons, List.map_nil]); first | done | rfl | (simp only [List.length_drop, List.length_take]; rfl)) ?_; (with_reducible refine (period_Works.calls kj13 a0 _ _ l1 true _ ?side1 ?side2 A33.out).mono ?_); (case side1 => repeat (first | exact (Kd.C_below HR1.out HB.out) | (with_reducible refine Kd.C_alloc ?_ _) | (with_reducible refine Kd.C_drewN ?_ _) | (with_reducible refine Kd.C_drew ?_))); (case side2 => exact HC1.out); rintro e w' ⟨rfl, ⟨nd, rfl⟩⟩; refine ⟨_, rfl, ?_⟩))
                      go_meet
                      case rel => exact ⟨_, ((t325 != a0)), (by first | rfl | (simp; done) | (simp [*]; done)), H', ⟨by have := HJ4.out; have := HJ13.out; first | omega | exact Nat.le_refl _⟩, ⟨by repeat (first | (with_reducible first | exact HB.out | apply below_alloc | apply pw_below_drewN | apply below_drew1) | exact HB.out)⟩⟩
                    · rw [if_neg c35] at H
                      have c35b0 : (t323 == a0) = false := beq_eq_false_iff_ne.mpr c35
                      have c35b1 : (t323 != a0) = true := bne_iff_ne.mpr c35
                      (first | rw [c35b0] | (simp only [i64_w, i32_w]; rw [c35b0]) | skip)
                      have H' := Aside0.mk H
                      clear H
                      go_wp2_with (first | ((with_reducible refine gate_callee (f := 28) rfl ?_); refine goesL_ (some 108) rfl rfl Try.func28 (by kernel_rfl) rfl #[.int .i64 a0, .slice A1 l1.length c1] rfl (by (try simp only [List.map_toArray, List.map_cons, List.map_nil]); first | done | rfl | (simp only [List.length_drop, List.length_take]; rfl)) ?_; (with_reducible refine (period_Works.calls kj13 a0 _ _ l1 true _ ?side1 ?side2 A33.out).mono ?_); (case side1 => repeat (first | exact (Kd.C_below HR1.out HB.out) | (with_reducible refine Kd.C_alloc ?_ _) | (with_reducible refine Kd.C_drewN ?_ _) | (with_reducible refine Kd.C_drew ?_))); (case side2 => exact HC1.out); rintro e w' ⟨rfl, ⟨nd, rfl⟩⟩; refine ⟨_, rfl, ?_⟩))
                      go_meet
                      case rel => exact ⟨_, (true), (by first | rfl | (simp; done) | (simp [*]; done)), H', ⟨by have := HJ4.out; have := HJ13.out; first | omega | exact Nat.le_refl _⟩, ⟨by repeat (first | (with_reducible first | exact HB.out | apply below_alloc | apply pw_below_drewN | apply below_drew1) | exact HB.out)⟩⟩
                  · replace c34 := Bool.eq_false_iff.mpr c34
                    subst c34
                    have H1 : (lombardlaw06_PeriodWorks.j2 kj13 a0 l1 t323 t325 t327 false) = some r := by rw [if_neg (show ¬ (false = true) by decide)] at H; exact H
                    clear H
                    have H := H1
                    clear H1
                    have H' := Aside0.mk H
                    clear H
                    go_wp2_with (first | ((with_reducible refine gate_callee (f := 28) rfl ?_); refine goesL_ (some 108) rfl rfl Try.func28 (by kernel_rfl) rfl #[.int .i64 a0, .slice A1 l1.length c1] rfl (by (try simp only [List.map_toArray, List.map_cons, List.map_nil]); first | done | rfl | (simp only [List.length_drop, List.length_take]; rfl)) ?_; (with_reducible refine (period_Works.calls kj13 a0 _ _ l1 false _ ?side1 ?side2 A33.out).mono ?_); (case side1 => repeat (first | exact (Kd.C_below HR1.out HB.out) | (with_reducible refine Kd.C_alloc ?_ _) | (with_reducible refine Kd.C_drewN ?_ _) | (with_reducible refine Kd.C_drew ?_))); (case side2 => exact HC1.out); rintro e w' ⟨rfl, ⟨nd, rfl⟩⟩; refine ⟨_, rfl, ?_⟩))
                    go_meet
                    case rel => exact ⟨_, (false), (by first | rfl | (simp; done) | (simp [*]; done)), H', ⟨by have := HJ4.out; have := HJ13.out; first | omega | exact Nat.le_refl _⟩, ⟨by repeat (first | (with_reducible first | exact HB.out | apply below_alloc | apply pw_below_drewN | apply below_drew1) | exact HB.out)⟩⟩
                case rest =>
                  clear HC32
                  try clear c1
                  try clear c2
                  try clear p2
                  try clear c3
                  try clear c4
                  try clear c7
                  try clear c7b0
                  try clear c7b1
                  try clear c8
                  try clear c8b0
                  try clear c9
                  try clear c10
                  try clear c19
                  try clear c19b0
                  try clear c19b1
                  try clear c20
                  try clear c20b0
                  try clear c20b1
                  try clear c21
                  try clear c21b0
                  try clear c21b1
                  try clear c22
                  try clear c22b0
                  try clear c22b1
                  try clear c23
                  try clear c23b0
                  try clear c23b1
                  try clear c25
                  try clear c26
                  try clear c27
                  try clear c28
                  try clear c28b0
                  try clear c29
                  try clear c29b0
                  try clear c30
                  try clear c30b0
                  try clear c30b1
                  try clear c31
                  try clear c34
                  try clear c35
                  try clear c35b0
                  try clear c35b1
                  try clear p2
                  obtain ⟨kq, x118_31, rfl, HA, HJ31, HB⟩ := hcut
                  cases kq with
                  | zero => exact absurd HA.out (by simp [lombardlaw06_PeriodWorks.j2])
                  | succ kj31 =>
                    have H := HA.out
                    clear HA
                    simp only [lombardlaw06_PeriodWorks.j2] at H
                    by_cases c36 : x118_31 = true
                    · subst c36
                      have H1 : (some false) = some r := by rw [if_pos rfl] at H; exact H
                      clear H
                      have H := H1
                      clear H1
                      obtain rfl := Option.some.inj H
                      go_wp2
                      go_ret
                      exact ⟨by first | rfl | (simp [errW_none, errW_some] <;> rfl) | (simp [*, errW_none, errW_some] <;> rfl), by repeat (first | (with_reducible first | exact HB.out | apply below_alloc | apply pw_below_drewN | apply below_drew1) | exact HB.out)⟩
                    · replace c36 := Bool.eq_false_iff.mpr c36
                      subst c36
                      have H1 : (lombardlaw06_PeriodWorks.l0 kj31 a0 l1 t323 t325 t327 (wrap64 (t325 + 1))) = some r := by rw [if_neg (show ¬ (false = true) by decide)] at H; exact H
                      clear H
                      have H := H1
                      clear H1
                      have H' := Aside0.mk H
                      clear H
                      go_wp2
                      go_loopg [13] kj31 (fun kq v13 w' => ∃ (x13_4 : Int), v13 = .int .i64 x13_4 ∧ Aside0 (lombardlaw06_PeriodWorks.l0 kq a0 l1 t323 t325 t327 x13_4 = some r) ∧ Aside0 (kq ≤ kj31) ∧ Aside0 (Below w.heap.size w w'))
                      case atStart => exact ⟨(wrap64 (t325 + 1)), (by first | rfl | (simp; done) | (simp [*]; done)), H', ⟨Nat.le_refl _⟩, ⟨by repeat (first | (with_reducible first | exact HB.out | apply below_alloc | apply pw_below_drewN | apply below_drew1) | exact HB.out)⟩⟩
                      case round =>
                        clear H'
                        try clear c1
                        try clear c2
                        try clear p2
                        try clear c3
                        try clear c4
                        try clear p6
                        try clear c7
                        try clear c7b0
                        try clear c7b1
                        try clear c8
                        try clear c8b0
                        try clear c9
                        try clear c10
                        try clear c19
                        try clear c19b0
                        try clear c19b1
                        try clear c20
                        try clear c20b0
                        try clear c20b1
                        try clear c21
                        try clear c21b0
                        try clear c21b1
                        try clear c22
                        try clear c22b0
                        try clear c22b1
                        try clear c23
                        try clear c23b0
                        try clear c23b1
                        try clear c25
                        try clear c26
                        try clear c27
                        try clear c28
                        try clear c28b0
                        try clear c29
                        try clear c29b0
                        try clear c30
                        try clear c30b0
                        try clear c30b1
                        try clear c31
                        try clear c34
                        try clear c35
                        try clear c35b0
                        try clear c35b1
                        try clear c36
                        try clear p2
                        obtain ⟨x13_4, rfl, HA, HK4, HB⟩ := hrel
                        cases gk with
                        | zero => exact absurd HA.out (by simp [lombardlaw06_PeriodWorks.l0])
                        | succ k4 =>
                          have H := HA.out
                          clear HA
                          simp only [lombardlaw06_PeriodWorks.l0] at H
                          by_cases c37 : x13_4 < t323
                          · rw [if_pos c37] at H
                            have c37b0 : decide (x13_4 < t323) = true := decide_eq_true c37
                            clear c37
                            replace H := Option.bind_eq_some_iff.mp H
                            obtain ⟨t334, A380, H⟩ := H
                            replace H : (if t334 = true then (some false) else (lombardlaw06_PeriodWorks.l0 k4 a0 l1 t323 t325 t327 (wrap64 (x13_4 + 1)))) = some r := H
                            have A38 := Aside0.mk A380
                            clear A380
                            by_cases c39 : t334 = true
                            · subst c39
                              have H1 : (some false) = some r := by rw [if_pos rfl] at H; exact H
                              clear H
                              have H := H1
                              clear H1
                              obtain rfl := Option.some.inj H
                              go_wp2_with (first | ((with_reducible refine gate_callee (f := 28) rfl ?_); refine goesL_ (some 128) rfl rfl Try.func28 (by kernel_rfl) rfl #[.int .i64 x13_4, .slice A1 l1.length c1] rfl (by (try simp only [List.map_toArray, List.map_cons, List.map_nil]); first | done | rfl | (simp only [List.length_drop, List.length_take]; rfl)) ?_; (with_reducible refine (period_Works.calls k4 x13_4 _ _ l1 true _ ?side1 ?side2 A38.out).mono ?_); (case side1 => repeat (first | exact (Kd.C_below HR1.out HB.out) | (with_reducible refine Kd.C_alloc ?_ _) | (with_reducible refine Kd.C_drewN ?_ _) | (with_reducible refine Kd.C_drew ?_))); (case side2 => exact HC1.out); rintro e w' ⟨rfl, ⟨nd, rfl⟩⟩; refine ⟨_, rfl, ?_⟩))
                              go_ret
                              exact ⟨by first | rfl | (simp [errW_none, errW_some] <;> rfl) | (simp [*, errW_none, errW_some] <;> rfl), by repeat (first | (with_reducible first | exact HB.out | apply below_alloc | apply pw_below_drewN | apply below_drew1) | exact HB.out)⟩
                            · replace c39 := Bool.eq_false_iff.mpr c39
                              subst c39
                              have H1 : (lombardlaw06_PeriodWorks.l0 k4 a0 l1 t323 t325 t327 (wrap64 (x13_4 + 1))) = some r := by rw [if_neg (show ¬ (false = true) by decide)] at H; exact H
                              clear H
                              have H := H1
                              clear H1
                              have H' := Aside0.mk H
                              clear H
                              go_wp2_with (first | ((with_reducible refine gate_callee (f := 28) rfl ?_); refine goesL_ (some 128) rfl rfl Try.func28 (by kernel_rfl) rfl #[.int .i64 x13_4, .slice A1 l1.length c1] rfl (by (try simp only [List.map_toArray, List.map_cons, List.map_nil]); first | done | rfl | (simp only [List.length_drop, List.length_take]; rfl)) ?_; (with_reducible refine (period_Works.calls k4 x13_4 _ _ l1 false _ ?side1 ?side2 A38.out).mono ?_); (case side1 => repeat (first | exact (Kd.C_below HR1.out HB.out) | (with_reducible refine Kd.C_alloc ?_ _) | (with_reducible refine Kd.C_drewN ?_ _) | (with_reducible refine Kd.C_drew ?_))); (case side2 => exact HC1.out); rintro e w' ⟨rfl, ⟨nd, rfl⟩⟩; refine ⟨_, rfl, ?_⟩))
                              go_roundg k4
                              case measure => have := HJ4.out; have := HJ13.out; have := HJ31.out; have := HK4.out; omega
                              case rel => exact ⟨(wrap64 (x13_4 + 1)), (by first | rfl | (simp; done) | (simp [*]; done)), H', ⟨by have := HJ4.out; have := HJ13.out; have := HJ31.out; have := HK4.out; omega⟩, ⟨by repeat (first | (with_reducible first | exact HB.out | apply below_alloc | apply pw_below_drewN | apply below_drew1) | exact HB.out)⟩⟩
                          · rw [if_neg c37] at H
                            have c37b0 : decide (x13_4 < t323) = false := decide_eq_false c37
                            clear c37
                            replace H := Option.bind_eq_some_iff.mp H
                            obtain ⟨⟨t335, t336, t337, t338⟩, A400, H⟩ := H
                            replace H : ((day_To.f k4 t323).bind fun bt340 => (if t336 = bt340.2.1 then (if t335 = bt340.1 then (some (t327 == t323)) else (some (t327 == t325))) else (some (t327 == t325)))) = some r := H
                            have A40 := Aside0.mk A400
                            clear A400
                            replace H := Option.bind_eq_some_iff.mp H
                            obtain ⟨⟨t340, t341, t342, t343⟩, A410, H⟩ := H
                            replace H : (if t336 = t341 then (if t335 = t340 then (some (t327 == t323)) else (some (t327 == t325))) else (some (t327 == t325))) = some r := H
                            have A41 := Aside0.mk A410
                            clear A410
                            have HC42 := Aside0.mk H
                            clear H
                            go_upto_region 20 with (first | ((with_reducible refine gate_callee (f := 17) rfl ?_); refine goesL_ (some 131) rfl rfl Try.func17 (by kernel_rfl) rfl #[.int .i64 a0] rfl (by (try simp only [List.map_toArray, List.map_cons, List.map_nil]); first | done | rfl | (simp only [List.length_drop, List.length_take]; rfl)) ?_; (with_reducible refine (day_To.calls k4 a0 t335 t336 t337 t338 _ A40.out).mono ?_); rintro e w43 ⟨rfl, hb⟩; refine ⟨_, rfl, ?_⟩; have n0_ := Aside0.mk (below_step (by repeat (first | (with_reducible first | exact HB.out | apply below_alloc | apply pw_below_drewN | apply below_drew1) | exact HB.out)) hb); clear HB; have HB := n0_; clear n0_; (try clear hb); (try clear hb2); (try clear hk); (try clear hi)) | ((with_reducible refine gate_dst (N := 14) rfl ?_); refine box_event ?hg (N := 14) ?hd (cs := #[.int .i64 0, .int .i64 0, .int .i64 0]) (t := 23) ?hr ?_; (case hd => rfl); (case hg => rfl); (case hr => first | (go_simp; done) | (go_simp; rfl)); intro gb339 hg w44 hbox hb; have n0_ := Aside0.mk (below_step (by repeat (first | (with_reducible first | exact HB.out | apply below_alloc | apply pw_below_drewN | apply below_drew1) | exact HB.out)) hb); have n1_ := Aside0.mk (hbox); have n2_ := Aside0.mk ((by rw [hg]; exact (below_size (by repeat (first | (with_reducible first | exact HB.out | apply below_alloc | apply pw_below_drewN | apply below_drew1) | exact HB.out))) : w.heap.size ≤ gb339)); have n3_ := Aside0.mk ((by rw [hg]; exact (below_size (by repeat (first | (with_reducible first | exact HB.out | apply below_alloc | apply pw_below_drewN | apply below_drew1) | exact HB.out))) : w.heap.size ≤ gb339)); clear HB; have HB := n0_; have BK339 := n1_; have GW339 := n2_; have GE339 := n3_; clear n0_ n1_ n2_ n3_; clear hb hbox hg; have hcz45_0 : w44.cell? ⟨gb339, 0, none⟩ = some (.int .i64 0) := (blk_cell BK339.out 0).trans rfl; have hcz45_1 : w44.cell? ⟨gb339, 1, none⟩ = some (.int .i64 0) := (blk_cell BK339.out 1).trans rfl; have hcz45_2 : w44.cell? ⟨gb339, 2, none⟩ = some (.int .i64 0) := (blk_cell BK339.out 2).trans rfl; have hfz45_0 := blk_frozen BK339.out 0; have hfz45_1 := blk_frozen BK339.out 1; have hfz45_2 := blk_frozen BK339.out 2) | ((with_reducible refine gate_callee (f := 17) rfl ?_); refine goesL_ (some 136) rfl rfl Try.func17 (by kernel_rfl) rfl #[.int .i64 t323] rfl (by (try simp only [List.map_toArray, List.map_cons, List.map_nil]); first | done | rfl | (simp only [List.length_drop, List.length_take]; rfl)) ?_; (with_reducible refine (day_To.calls k4 t323 t340 t341 t342 t343 _ A41.out).mono ?_); rintro e w46 ⟨rfl, hb⟩; refine ⟨_, rfl, ?_⟩; have n0_ := Aside0.mk (blk_below (g := gb339) (o := .cells #[.int .i64 t335, .int .i64 t336, .int .i64 t337] 23 (0, 0)) (by (with_reducible repeat (first | refine blk_drewN ?_ _ | refine blk_drew ?_ | refine blk_alloc ?_ _)); refine blk_put (cs := #[.int .i64 t335, .int .i64 t336, .int .i64 0]) ?_ 2 _ rfl; (with_reducible repeat (first | refine blk_drewN ?_ _ | refine blk_drew ?_ | refine blk_alloc ?_ _)); refine blk_put (cs := #[.int .i64 t335, .int .i64 0, .int .i64 0]) ?_ 1 _ rfl; (with_reducible repeat (first | refine blk_drewN ?_ _ | refine blk_drew ?_ | refine blk_alloc ?_ _)); refine blk_put (cs := #[.int .i64 0, .int .i64 0, .int .i64 0]) ?_ 0 _ rfl; (with_reducible repeat (first | refine blk_drewN ?_ _ | refine blk_drew ?_ | refine blk_alloc ?_ _)); exact BK339.out) hb); have n1_ := Aside0.mk (below_step (by repeat (first | (with_reducible first | exact HB.out | apply below_alloc | apply pw_below_drewN | apply below_drew1 | refine below_set ?_ GE339.out) | exact HB.out)) hb); clear BK339; clear HB; have BK339 := n0_; have HB := n1_; clear n0_ n1_; (try clear hb); (try clear hb2); (try clear hk); (try clear hi)) | ((with_reducible refine gate_dst (N := 16) rfl ?_); refine box_event ?hg (N := 16) ?hd (cs := #[.int .i64 0, .int .i64 0, .int .i64 0]) (t := 23) ?hr ?_; (case hd => rfl); (case hg => rfl); (case hr => first | (go_simp; done) | (go_simp; rfl)); intro gb344 hg w47 hbox hb; have n0_ := Aside0.mk (blk_below (g := gb339) (o := .cells #[.int .i64 t335, .int .i64 t336, .int .i64 t337] 23 (0, 0)) (by (with_reducible repeat (first | refine blk_drewN ?_ _ | refine blk_drew ?_ | refine blk_alloc ?_ _)); exact BK339.out) hb); have n1_ := Aside0.mk (below_step (by repeat (first | (with_reducible first | exact HB.out | apply below_alloc | apply pw_below_drewN | apply below_drew1 | refine below_set ?_ GE339.out) | exact HB.out)) hb); have n2_ := Aside0.mk (hbox); have n3_ := Aside0.mk ((by rw [hg]; exact (below_size (by repeat (first | (with_reducible first | exact HB.out | apply below_alloc | apply pw_below_drewN | apply below_drew1 | refine below_set ?_ GE339.out) | exact HB.out))) : w.heap.size ≤ gb344)); have n4_ := Aside0.mk ((by rw [hg]; exact (below_size (by repeat (first | (with_reducible first | exact HB.out | apply below_alloc | apply pw_below_drewN | apply below_drew1 | refine below_set ?_ GE339.out) | exact HB.out))) : w.heap.size ≤ gb344)); have n5_ := Aside0.mk ((by rw [hg]; exact Nat.ne_of_lt (blk_lt (g := gb339) (o := .cells #[.int .i64 t335, .int .i64 t336, .int .i64 t337] 23 (0, 0)) (by (with_reducible repeat (first | refine blk_drewN ?_ _ | refine blk_drew ?_ | refine blk_alloc ?_ _)); exact BK339.out)) : gb339 ≠ gb344)); have n6_ := Aside0.mk ((by rw [hg]; exact Nat.ne_of_gt (blk_lt (g := gb339) (o := .cells #[.int .i64 t335, .int .i64 t336, .int .i64 t337] 23 (0, 0)) (by (with_reducible repeat (first | refine blk_drewN ?_ _ | refine blk_drew ?_ | refine blk_alloc ?_ _)); exact BK339.out)) : gb344 ≠ gb339)); clear BK339; clear HB; have BK339 := n0_; have HB := n1_; have BK344 := n2_; have GW344 := n3_; have GE344 := n4_; have NB339_344 := n5_; have NB344_339 := n6_; clear n0_ n1_ n2_ n3_ n4_ n5_ n6_; clear hb hbox hg; have hnb48 := NB344_339.out; have hnc48 := NB339_344.out; have hcz49_0 : w47.cell? ⟨gb344, 0, none⟩ = some (.int .i64 0) := (blk_cell BK344.out 0).trans rfl; have hcz49_1 : w47.cell? ⟨gb344, 1, none⟩ = some (.int .i64 0) := (blk_cell BK344.out 1).trans rfl; have hcz49_2 : w47.cell? ⟨gb344, 2, none⟩ = some (.int .i64 0) := (blk_cell BK344.out 2).trans rfl; have hfz49_0 := blk_frozen BK344.out 0; have hfz49_1 := blk_frozen BK344.out 1; have hfz49_2 := blk_frozen BK344.out 2))
                            have H := HC42.out
                            clear HC42
                            by_cases c50 : t336 = t341
                            · rw [if_pos c50] at H
                              have c50b0 : (t336 == t341) = true := beq_iff_eq.mpr c50
                              have c50b1 : (t336 != t341) = false := bne_eq_false_iff_eq.mpr c50
                              clear c50
                              by_cases c51 : t335 = t340
                              · rw [if_pos c51] at H
                                have c51b0 : (t335 == t340) = true := beq_iff_eq.mpr c51
                                have c51b1 : (t335 != t340) = false := bne_eq_false_iff_eq.mpr c51
                                clear c51
                                obtain rfl := Option.some.inj H
                                have hnb52 := NB339_344.out
                                have hnc52 := NB344_339.out
                                have hcz53_0 : w47.cell? ⟨gb339, 0, none⟩ = some (.int .i64 t335) := (blk_cell BK339.out 0).trans rfl
                                have hcz53_1 : w47.cell? ⟨gb339, 1, none⟩ = some (.int .i64 t336) := (blk_cell BK339.out 1).trans rfl
                                have hcz53_2 : w47.cell? ⟨gb339, 2, none⟩ = some (.int .i64 t337) := (blk_cell BK339.out 2).trans rfl
                                have hfz53_0 := blk_frozen BK339.out 0
                                have hfz53_1 := blk_frozen BK339.out 1
                                have hfz53_2 := blk_frozen BK339.out 2
                                have hcz54_0 : w47.cell? ⟨gb344, 0, none⟩ = some (.int .i64 0) := (blk_cell BK344.out 0).trans rfl
                                have hcz54_1 : w47.cell? ⟨gb344, 1, none⟩ = some (.int .i64 0) := (blk_cell BK344.out 1).trans rfl
                                have hcz54_2 : w47.cell? ⟨gb344, 2, none⟩ = some (.int .i64 0) := (blk_cell BK344.out 2).trans rfl
                                have hfz54_0 := blk_frozen BK344.out 0
                                have hfz54_1 := blk_frozen BK344.out 1
                                have hfz54_2 := blk_frozen BK344.out 2
                                go_wp2
                                go_ret
                                exact ⟨by first | rfl | (simp [errW_none, errW_some] <;> rfl) | (simp [*, errW_none, errW_some] <;> rfl), by repeat (first | (with_reducible first | exact HB.out | apply below_alloc | apply pw_below_drewN | apply below_drew1 | refine below_set ?_ GE339.out | refine below_set ?_ GE344.out) | exact HB.out)⟩
                              · rw [if_neg c51] at H
                                have c51b0 : (t335 == t340) = false := beq_eq_false_iff_ne.mpr c51
                                have c51b1 : (t335 != t340) = true := bne_iff_ne.mpr c51
                                obtain rfl := Option.some.inj H
                                have hnb55 := NB339_344.out
                                have hnc55 := NB344_339.out
                                have hcz56_0 : w47.cell? ⟨gb339, 0, none⟩ = some (.int .i64 t335) := (blk_cell BK339.out 0).trans rfl
                                have hcz56_1 : w47.cell? ⟨gb339, 1, none⟩ = some (.int .i64 t336) := (blk_cell BK339.out 1).trans rfl
                                have hcz56_2 : w47.cell? ⟨gb339, 2, none⟩ = some (.int .i64 t337) := (blk_cell BK339.out 2).trans rfl
                                have hfz56_0 := blk_frozen BK339.out 0
                                have hfz56_1 := blk_frozen BK339.out 1
                                have hfz56_2 := blk_frozen BK339.out 2
                                have hcz57_0 : w47.cell? ⟨gb344, 0, none⟩ = some (.int .i64 0) := (blk_cell BK344.out 0).trans rfl
                                have hcz57_1 : w47.cell? ⟨gb344, 1, none⟩ = some (.int .i64 0) := (blk_cell BK344.out 1).trans rfl
                                have hcz57_2 : w47.cell? ⟨gb344, 2, none⟩ = some (.int .i64 0) := (blk_cell BK344.out 2).trans rfl
                                have hfz57_0 := blk_frozen BK344.out 0
                                have hfz57_1 := blk_frozen BK344.out 1
                                have hfz57_2 := blk_frozen BK344.out 2
                                go_wp2
                                go_ret
                                exact ⟨by first | rfl | (simp [errW_none, errW_some] <;> rfl) | (simp [*, errW_none, errW_some] <;> rfl), by repeat (first | (with_reducible first | exact HB.out | apply below_alloc | apply pw_below_drewN | apply below_drew1 | refine below_set ?_ GE339.out | refine below_set ?_ GE344.out) | exact HB.out)⟩
                            · rw [if_neg c50] at H
                              have c50b0 : (t336 == t341) = false := beq_eq_false_iff_ne.mpr c50
                              have c50b1 : (t336 != t341) = true := bne_iff_ne.mpr c50
                              obtain rfl := Option.some.inj H
                              have hnb58 := NB339_344.out
                              have hnc58 := NB344_339.out
                              have hcz59_0 : w47.cell? ⟨gb339, 0, none⟩ = some (.int .i64 t335) := (blk_cell BK339.out 0).trans rfl
                              have hcz59_1 : w47.cell? ⟨gb339, 1, none⟩ = some (.int .i64 t336) := (blk_cell BK339.out 1).trans rfl
                              have hcz59_2 : w47.cell? ⟨gb339, 2, none⟩ = some (.int .i64 t337) := (blk_cell BK339.out 2).trans rfl
                              have hfz59_0 := blk_frozen BK339.out 0
                              have hfz59_1 := blk_frozen BK339.out 1
                              have hfz59_2 := blk_frozen BK339.out 2
                              have hcz60_0 : w47.cell? ⟨gb344, 0, none⟩ = some (.int .i64 0) := (blk_cell BK344.out 0).trans rfl
                              have hcz60_1 : w47.cell? ⟨gb344, 1, none⟩ = some (.int .i64 0) := (blk_cell BK344.out 1).trans rfl
                              have hcz60_2 : w47.cell? ⟨gb344, 2, none⟩ = some (.int .i64 0) := (blk_cell BK344.out 2).trans rfl
                              have hfz60_0 := blk_frozen BK344.out 0
                              have hfz60_1 := blk_frozen BK344.out 1
                              have hfz60_2 := blk_frozen BK344.out 2
                              go_wp2
                              go_ret
                              exact ⟨by first | rfl | (simp [errW_none, errW_some] <;> rfl) | (simp [*, errW_none, errW_some] <;> rfl), by repeat (first | (with_reducible first | exact HB.out | apply below_alloc | apply pw_below_drewN | apply below_drew1 | refine below_set ?_ GE339.out | refine below_set ?_ GE344.out) | exact HB.out)⟩
  · replace c4 := Bool.eq_false_iff.mpr c4
    subst c4
    have H1 : (some false) = some r := by rw [if_neg (show ¬ (false = true) by decide)] at H; exact H
    clear H
    have H := H1
    clear H1
    obtain rfl := Option.some.inj H
    go_enter Try.func10, Try.ntmps10
    go_wp2_with (first | ((with_reducible refine gate_callee (f := 25) rfl ?_); refine goesL_ (some 18) rfl rfl Try.func25 (by kernel_rfl) rfl #[] rfl (by (try simp only [List.map_toArray, List.map_cons, List.map_nil]); first | done | rfl | (simp only [List.length_drop, List.length_take]; rfl)) ?_; (with_reducible refine (lombardlaw06_alive.calls k  false _ A3.out).mono ?_); rintro e w61 ⟨rfl, hb⟩; refine ⟨_, rfl, ?_⟩; have n0_ := Aside0.mk (below_step (by repeat (first | (with_reducible first | exact HB.out | apply below_alloc | apply pw_below_drewN | apply below_drew1) | exact HB.out)) hb); clear HB; have HB := n0_; clear n0_; (try clear hb); (try clear hb2); (try clear hk); (try clear hi)))
    go_ret
    exact ⟨by first | rfl | (simp [errW_none, errW_some] <;> rfl) | (simp [*, errW_none, errW_some] <;> rfl), by repeat (first | (with_reducible first | exact HB.out | apply below_alloc | apply pw_below_drewN | apply below_drew1) | exact HB.out)⟩

/-- THE ONE PURE STATEMENT of lombardlaw06_PeriodWorks: yours. -/
def lombardlaw06_PeriodWorks.Pure : Prop := ∀ (a0 : Int) (l1 : List Int), (Lit.int .i64 a0).wf = true → l1.length ≤ maxLen → l1.length * 8 ≤ 140737488351232 → (∀ x ∈ l1, (Lit.int .i64 x).wf = true) → ∃ k, lombardlaw06_PeriodWorks.f k a0 l1 = some true
theorem lombardlaw06_PeriodWorks.walk (P : lombardlaw06_PeriodWorks.Pure) (a0 : Int) (a1 : Option Addr) (len1 cap1 : Nat) (z1 : List Int) (w : World) (w0 : (Lit.int .i64 a0).wf = true) (w1 : (a1 = none ∧ len1 = 0 ∧ cap1 = 0 ∧ z1 = []) ∨ ∃ x, a1 = some x ∧ len1 ≤ cap1 ∧ cap1 ≤ maxLen ∧ z1.length = cap1 ∧ (∀ i, i < z1.length → w.cell? (x.add i) = some (.int .i64 (z1.getD i 0))) ∧ ∀ n ∈ z1, (Lit.int .i64 n).wf = true) (y1 : len1 * 8 ≤ 140737488351232) :
    Calls Try.prog 10 #[.int .i64 a0, .slice a1 len1 cap1] w fun e w' => e = .returned (.bool true) ∧ Below w.heap.size w w' := by
  obtain ⟨l1, rfl, hr1, hm1, hw1, hc1⟩ := ReadsInt.ofRowC w1
  obtain ⟨k, h⟩ := P a0 l1 w0 hm1 y1 hw1
  refine (lombardlaw06_PeriodWorks.calls k a0 _ _ l1 true w (Kd.C_of_reads (d := (0 : Int)) (h1 := fun _ => rfl) hr1) hc1 h).mono ?_
  rintro e w' ⟨rfl, hd⟩
  exact ⟨rfl, hd⟩

end Go.Proofs.Ytdfaedikjfbbjaa.S
