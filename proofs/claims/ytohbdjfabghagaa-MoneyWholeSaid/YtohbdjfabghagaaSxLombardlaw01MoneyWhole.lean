/- Printed by a program of this session out of the translation: what each function called here computes, and that its call comes to just that. Conditions: none beyond those that each theorem names. -/
import Derived.Test.YtohbdjfabghagaaSx0
import Derived.Test.YtohbdjfabghagaaSxMoneySum
import Derived.Test.YtohbdjfabghagaaSxMoneySplit
import Derived.Test.YtohbdjfabghagaaSxLombardlaw01Alive
namespace Go.Proofs.Ytohbdjfabghagaa.S
open Go.RowKit Go.Proofs.YtohbdjfabghagaaW.PrintWords Go.Proofs.YtohbdjfabghagaaW.PrintLast Go.Proofs.YtohbdjfabghagaaW.PrintMore
attribute [local go_sem] max2_int min2_int max_two min_two max_three min_three max_four min_four   -- for this text's walks alone
attribute [local go_sem] Go.Proofs.Ytohbdjfabghagaa.XWalk.cell2
set_option linter.unusedVariables false
set_option linter.unusedSimpArgs false

/-! ### lombardlaw01_MoneyWhole: function 7 -/
mutual
def lombardlaw01_MoneyWhole.j0 : Nat → Int → List Int → List Int → Bool → Option (Bool)
  | 0, _, _, _, _ => none
  | k + 1, x0, x1, x5, x47 => if x47 = true then (some false) else (lombardlaw01_MoneyWhole.l0 k x0 x1 x5 x5 (x5.length : Int) 0)
def lombardlaw01_MoneyWhole.l0 : Nat → Int → List Int → List Int → List Int → Int → Int → Option (Bool)
  | 0, _, _, _, _, _, _ => none
  | k + 1, x0, x1, x5, x48, x49, x50 => if x50 < x49 then (if 0 ≤ x50 then (if x50 < (x48.length : Int) then (if x50 < (x1.length : Int) then (if (rd x1 x50) = 0 then (if (rd x48 x50) = 0 then (if x0 ≥ 0 then (if (rd x48 x50) < 0 then (lombardlaw01_MoneyWhole.j2 k x0 x1 x5 x50 (rd x48 x50) x48 x49 x50 true) else (if x0 ≤ 0 then (lombardlaw01_MoneyWhole.j2 k x0 x1 x5 x50 (rd x48 x50) x48 x49 x50 (decide ((rd x48 x50) > 0))) else (lombardlaw01_MoneyWhole.j2 k x0 x1 x5 x50 (rd x48 x50) x48 x49 x50 false))) else (if x0 ≤ 0 then (lombardlaw01_MoneyWhole.j2 k x0 x1 x5 x50 (rd x48 x50) x48 x49 x50 (decide ((rd x48 x50) > 0))) else (lombardlaw01_MoneyWhole.j2 k x0 x1 x5 x50 (rd x48 x50) x48 x49 x50 false))) else (lombardlaw01_MoneyWhole.j2 k x0 x1 x5 x50 (rd x48 x50) x48 x49 x50 true)) else (if x0 ≥ 0 then (if (rd x48 x50) < 0 then (lombardlaw01_MoneyWhole.j2 k x0 x1 x5 x50 (rd x48 x50) x48 x49 x50 true) else (if x0 ≤ 0 then (lombardlaw01_MoneyWhole.j2 k x0 x1 x5 x50 (rd x48 x50) x48 x49 x50 (decide ((rd x48 x50) > 0))) else (lombardlaw01_MoneyWhole.j2 k x0 x1 x5 x50 (rd x48 x50) x48 x49 x50 false))) else (if x0 ≤ 0 then (lombardlaw01_MoneyWhole.j2 k x0 x1 x5 x50 (rd x48 x50) x48 x49 x50 (decide ((rd x48 x50) > 0))) else (lombardlaw01_MoneyWhole.j2 k x0 x1 x5 x50 (rd x48 x50) x48 x49 x50 false)))) else (none)) else (none)) else (none)) else (some true)
def lombardlaw01_MoneyWhole.j2 : Nat → Int → List Int → List Int → Int → Int → List Int → Int → Int → Bool → Option (Bool)
  | 0, _, _, _, _, _, _, _, _, _ => none
  | k + 1, x0, x1, x5, x9, x10, x48, x49, x50, x79 => if x79 = true then (some false) else (if 0 ≤ x9 then (if x9 ≤ (x5.length : Int) then ((some (x5.take (x9 : Int).toNat : List Int)).bind fun y271 => (lombardlaw01_MoneyWhole.l1 k x0 x1 x5 x9 x10 x48 x49 x50 y271 (y271.length : Int) 0)) else (none)) else (none))
def lombardlaw01_MoneyWhole.l1 : Nat → Int → List Int → List Int → Int → Int → List Int → Int → Int → List Int → Int → Int → Option (Bool)
  | 0, _, _, _, _, _, _, _, _, _, _, _ => none
  | k + 1, x0, x1, x5, x9, x10, x48, x49, x50, x82, x83, x84 => if x84 < x83 then (if 0 ≤ x84 then (if x84 < (x82.length : Int) then (if x84 < (x1.length : Int) then (if 0 ≤ x9 then (if x9 < (x1.length : Int) then (if (rd x1 x84) = (rd x1 x9) then (if (wrap64 (x10 - (rd x82 x84))) > 1 then (some false) else (if (wrap64 ((rd x82 x84) - x10)) > 1 then (some false) else (lombardlaw01_MoneyWhole.l1 k x0 x1 x5 x9 x10 x48 x49 x50 x82 x83 (wrap64 (x84 + 1))))) else (lombardlaw01_MoneyWhole.l1 k x0 x1 x5 x9 x10 x48 x49 x50 x82 x83 (wrap64 (x84 + 1)))) else (none)) else (none)) else (none)) else (none)) else (none)) else (lombardlaw01_MoneyWhole.l0 k x0 x1 x5 x48 x49 (wrap64 (x50 + 1)))
end
def lombardlaw01_MoneyWhole.f (k : Nat) (a0 : Int) (l1 : List Int) : Option (Bool) := (lombardlaw01_alive.f k).bind fun t262 => (if t262 = true then (if (l1.length : Int) > 200 then (some true) else ((money_Split.f k a0 l1).bind fun bt263 => (if bt263.2 = 0 then ((money_Sum.f k bt263.1).bind fun bt267 => (if bt267.2 = 0 then (if bt267.1 = a0 then (lombardlaw01_MoneyWhole.j0 k a0 l1 bt263.1 ((bt263.1.length : Int) != (l1.length : Int))) else (lombardlaw01_MoneyWhole.j0 k a0 l1 bt263.1 true)) else (lombardlaw01_MoneyWhole.j0 k a0 l1 bt263.1 true))) else (some ((bt263.1.length : Int) == 0))))) else (some false))
theorem lombardlaw01_MoneyWhole.mono_l : ∀ k, (∀ y0 y1 y2 y3, LeO (lombardlaw01_MoneyWhole.j0 k y0 y1 y2 y3) (lombardlaw01_MoneyWhole.j0 (k + 1) y0 y1 y2 y3)) ∧ (∀ y0 y1 y2 y3 y4 y5, LeO (lombardlaw01_MoneyWhole.l0 k y0 y1 y2 y3 y4 y5) (lombardlaw01_MoneyWhole.l0 (k + 1) y0 y1 y2 y3 y4 y5)) ∧ (∀ y0 y1 y2 y3 y4 y5 y6 y7 y8, LeO (lombardlaw01_MoneyWhole.j2 k y0 y1 y2 y3 y4 y5 y6 y7 y8) (lombardlaw01_MoneyWhole.j2 (k + 1) y0 y1 y2 y3 y4 y5 y6 y7 y8)) ∧ (∀ y0 y1 y2 y3 y4 y5 y6 y7 y8 y9 y10, LeO (lombardlaw01_MoneyWhole.l1 k y0 y1 y2 y3 y4 y5 y6 y7 y8 y9 y10) (lombardlaw01_MoneyWhole.l1 (k + 1) y0 y1 y2 y3 y4 y5 y6 y7 y8 y9 y10))
  | 0 => ⟨fun _ _ _ _ r h => by simp [lombardlaw01_MoneyWhole.j0] at h, fun _ _ _ _ _ _ r h => by simp [lombardlaw01_MoneyWhole.l0] at h, fun _ _ _ _ _ _ _ _ _ r h => by simp [lombardlaw01_MoneyWhole.j2] at h, fun _ _ _ _ _ _ _ _ _ _ _ r h => by simp [lombardlaw01_MoneyWhole.l1] at h⟩
  | k + 1 => by
    obtain ⟨ih0, ih1, ih2, ih3⟩ := lombardlaw01_MoneyWhole.mono_l k
    refine ⟨?_, ?_, ?_, ?_⟩
    · intro y0 y1 y2 y3
      unfold lombardlaw01_MoneyWhole.j0
      repeat' first
      | (with_reducible exact ih0 _ _ _ _)
      | (with_reducible exact ih1 _ _ _ _ _ _)
      | (with_reducible exact ih2 _ _ _ _ _ _ _ _ _)
      | (with_reducible exact ih3 _ _ _ _ _ _ _ _ _ _ _)
      | (with_reducible exact lombardlaw01_alive.mono _)
      | (with_reducible exact money_Split.mono _ _ _)
      | (with_reducible exact money_Sum.mono _ _)
      | (with_reducible exact LeO.refl _)
      | (with_reducible exact LeO.none _)
      | (with_reducible refine LeO.ite ?_ ?_)
      | (with_reducible refine LeO.bind ?_ (fun _ => ?_))
      | exact ih0 _ _ _ _
      | exact ih1 _ _ _ _ _ _
      | exact ih2 _ _ _ _ _ _ _ _ _
      | exact ih3 _ _ _ _ _ _ _ _ _ _ _
      | exact lombardlaw01_alive.mono _
      | exact money_Split.mono _ _ _
      | exact money_Sum.mono _ _
      | exact LeO.none _
      | refine LeO.ite ?_ ?_
      | refine LeO.bind ?_ (fun _ => ?_)
    · intro y0 y1 y2 y3 y4 y5
      unfold lombardlaw01_MoneyWhole.l0
      repeat' first
      | (with_reducible exact ih0 _ _ _ _)
      | (with_reducible exact ih1 _ _ _ _ _ _)
      | (with_reducible exact ih2 _ _ _ _ _ _ _ _ _)
      | (with_reducible exact ih3 _ _ _ _ _ _ _ _ _ _ _)
      | (with_reducible exact lombardlaw01_alive.mono _)
      | (with_reducible exact money_Split.mono _ _ _)
      | (with_reducible exact money_Sum.mono _ _)
      | (with_reducible exact LeO.refl _)
      | (with_reducible exact LeO.none _)
      | (with_reducible refine LeO.ite ?_ ?_)
      | (with_reducible refine LeO.bind ?_ (fun _ => ?_))
      | exact ih0 _ _ _ _
      | exact ih1 _ _ _ _ _ _
      | exact ih2 _ _ _ _ _ _ _ _ _
      | exact ih3 _ _ _ _ _ _ _ _ _ _ _
      | exact lombardlaw01_alive.mono _
      | exact money_Split.mono _ _ _
      | exact money_Sum.mono _ _
      | exact LeO.none _
      | refine LeO.ite ?_ ?_
      | refine LeO.bind ?_ (fun _ => ?_)
    · intro y0 y1 y2 y3 y4 y5 y6 y7 y8
      unfold lombardlaw01_MoneyWhole.j2
      repeat' first
      | (with_reducible exact ih0 _ _ _ _)
      | (with_reducible exact ih1 _ _ _ _ _ _)
      | (with_reducible exact ih2 _ _ _ _ _ _ _ _ _)
      | (with_reducible exact ih3 _ _ _ _ _ _ _ _ _ _ _)
      | (with_reducible exact lombardlaw01_alive.mono _)
      | (with_reducible exact money_Split.mono _ _ _)
      | (with_reducible exact money_Sum.mono _ _)
      | (with_reducible exact LeO.refl _)
      | (with_reducible exact LeO.none _)
      | (with_reducible refine LeO.ite ?_ ?_)
      | (with_reducible refine LeO.bind ?_ (fun _ => ?_))
      | exact ih0 _ _ _ _
      | exact ih1 _ _ _ _ _ _
      | exact ih2 _ _ _ _ _ _ _ _ _
      | exact ih3 _ _ _ _ _ _ _ _ _ _ _
      | exact lombardlaw01_alive.mono _
      | exact money_Split.mono _ _ _
      | exact money_Sum.mono _ _
      | exact LeO.none _
      | refine LeO.ite ?_ ?_
      | refine LeO.bind ?_ (fun _ => ?_)
    · intro y0 y1 y2 y3 y4 y5 y6 y7 y8 y9 y10
      unfold lombardlaw01_MoneyWhole.l1
      repeat' first
      | (with_reducible exact ih0 _ _ _ _)
      | (with_reducible exact ih1 _ _ _ _ _ _)
      | (with_reducible exact ih2 _ _ _ _ _ _ _ _ _)
      | (with_reducible exact ih3 _ _ _ _ _ _ _ _ _ _ _)
      | (with_reducible exact lombardlaw01_alive.mono _)
      | (with_reducible exact money_Split.mono _ _ _)
      | (with_reducible exact money_Sum.mono _ _)
      | (with_reducible exact LeO.refl _)
      | (with_reducible exact LeO.none _)
      | (with_reducible refine LeO.ite ?_ ?_)
      | (with_reducible refine LeO.bind ?_ (fun _ => ?_))
      | exact ih0 _ _ _ _
      | exact ih1 _ _ _ _ _ _
      | exact ih2 _ _ _ _ _ _ _ _ _
      | exact ih3 _ _ _ _ _ _ _ _ _ _ _
      | exact lombardlaw01_alive.mono _
      | exact money_Split.mono _ _ _
      | exact money_Sum.mono _ _
      | exact LeO.none _
      | refine LeO.ite ?_ ?_
      | refine LeO.bind ?_ (fun _ => ?_)
theorem lombardlaw01_MoneyWhole.mono : ∀ a0 a1 k, LeO (lombardlaw01_MoneyWhole.f k a0 a1) (lombardlaw01_MoneyWhole.f (k + 1) a0 a1) := by
  intro a0 a1 k
  obtain ⟨ih0, ih1, ih2, ih3⟩ := lombardlaw01_MoneyWhole.mono_l k
  unfold lombardlaw01_MoneyWhole.f
  repeat' first
      | (with_reducible exact ih0 _ _ _ _)
      | (with_reducible exact ih1 _ _ _ _ _ _)
      | (with_reducible exact ih2 _ _ _ _ _ _ _ _ _)
      | (with_reducible exact ih3 _ _ _ _ _ _ _ _ _ _ _)
      | (with_reducible exact lombardlaw01_alive.mono _)
      | (with_reducible exact money_Split.mono _ _ _)
      | (with_reducible exact money_Sum.mono _ _)
      | (with_reducible exact LeO.refl _)
      | (with_reducible exact LeO.none _)
      | (with_reducible refine LeO.ite ?_ ?_)
      | (with_reducible refine LeO.bind ?_ (fun _ => ?_))
      | exact ih0 _ _ _ _
      | exact ih1 _ _ _ _ _ _
      | exact ih2 _ _ _ _ _ _ _ _ _
      | exact ih3 _ _ _ _ _ _ _ _ _ _ _
      | exact lombardlaw01_alive.mono _
      | exact money_Split.mono _ _ _
      | exact money_Sum.mono _ _
      | exact LeO.none _
      | refine LeO.ite ?_ ?_
      | refine LeO.bind ?_ (fun _ => ?_)
set_option maxHeartbeats 8000000 in
set_option maxRecDepth 100000 in
theorem lombardlaw01_MoneyWhole.calls (k : Nat) (a0 : Int) (A1 : Option Addr) (c1 : Nat) (l1 : List Int) (r : Bool) (w : World) (hr1 : Kd.C (Kd.int .i64) w A1 l1.length l1) (hc1 : l1.length ≤ c1) (h : lombardlaw01_MoneyWhole.f k a0 l1 = some r) :
    Calls Try.prog 7 #[.int .i64 a0, .slice A1 l1.length c1] w fun e w' => e = .returned (.bool r) ∧ Below w.heap.size w w' := by
  have HR1 := Aside0.mk hr1
  have HC1 := Aside0.mk hc1
  clear hr1 hc1
  have HB := Aside0.mk (Below.refl w.heap.size w)
  have H : ((lombardlaw01_alive.f k).bind fun t262 => (if t262 = true then (if (l1.length : Int) > 200 then (some true) else ((money_Split.f k a0 l1).bind fun bt263 => (if bt263.2 = 0 then ((money_Sum.f k bt263.1).bind fun bt267 => (if bt267.2 = 0 then (if bt267.1 = a0 then (lombardlaw01_MoneyWhole.j0 k a0 l1 bt263.1 ((bt263.1.length : Int) != (l1.length : Int))) else (lombardlaw01_MoneyWhole.j0 k a0 l1 bt263.1 true)) else (lombardlaw01_MoneyWhole.j0 k a0 l1 bt263.1 true))) else (some ((bt263.1.length : Int) == 0))))) else (some false))) = some r := h
  clear h
  replace H := Option.bind_eq_some_iff.mp H
  obtain ⟨t262, A30, H⟩ := H
  replace H : (if t262 = true then (if (l1.length : Int) > 200 then (some true) else ((money_Split.f k a0 l1).bind fun bt263 => (if bt263.2 = 0 then ((money_Sum.f k bt263.1).bind fun bt267 => (if bt267.2 = 0 then (if bt267.1 = a0 then (lombardlaw01_MoneyWhole.j0 k a0 l1 bt263.1 ((bt263.1.length : Int) != (l1.length : Int))) else (lombardlaw01_MoneyWhole.j0 k a0 l1 bt263.1 true)) else (lombardlaw01_MoneyWhole.j0 k a0 l1 bt263.1 true))) else (some ((bt263.1.length : Int) == 0))))) else (some false)) = some r := H
  have A3 := Aside0.mk A30
  clear A30
  by_cases c4 : t262 = true
  · subst c4
    have H1 : (if (l1.length : Int) > 200 then (some true) else ((money_Split.f k a0 l1).bind fun bt263 => (if bt263.2 = 0 then ((money_Sum.f k bt263.1).bind fun bt267 => (if bt267.2 = 0 then (if bt267.1 = a0 then (lombardlaw01_MoneyWhole.j0 k a0 l1 bt263.1 ((bt263.1.length : Int) != (l1.length : Int))) else (lombardlaw01_MoneyWhole.j0 k a0 l1 bt263.1 true)) else (lombardlaw01_MoneyWhole.j0 k a0 l1 bt263.1 true))) else (some ((bt263.1.length : Int) == 0))))) = some r := by rw [if_pos rfl] at H; exact H
    clear H
    have H := H1
    clear H1
    by_cases c5 : (l1.length : Int) > 200
    · rw [if_pos c5] at H
      have c5b0 : decide (200 < (l1.length : Int)) = true := decide_eq_true c5
      have c5b1 : decide (200 < l1.length) = true := decide_eq_true (by omega)
      clear c5
      obtain rfl := Option.some.inj H
      go_enter Try.func7, Try.ntmps7
      go_wp2_with (first | (go_at_call 20; (with_reducible refine (lombardlaw01_alive.calls k  true _ A3.out).mono ?_); rintro e w6 ⟨rfl, hb⟩; have n0_ := Aside0.mk (below_step (by repeat (first | (with_reducible first | exact HB.out | apply below_alloc | apply pw_below_drewN | apply below_drew1) | exact HB.out)) hb); clear HB; have HB := n0_; clear n0_; (try clear hb); (try clear hb2); (try clear hk); (try clear hi)))
      repeat (go_quiet (first | (go_at_call 20; (with_reducible refine (lombardlaw01_alive.calls k  true _ A3.out).mono ?_); rintro e w6 ⟨rfl, hb⟩; have n0_ := Aside0.mk (below_step (by repeat (first | (with_reducible first | exact HB.out | apply below_alloc | apply pw_below_drewN | apply below_drew1) | exact HB.out)) hb); clear HB; have HB := n0_; clear n0_; (try clear hb); (try clear hb2); (try clear hk); (try clear hi))); try go_wp2_with (first | (go_at_call 20; (with_reducible refine (lombardlaw01_alive.calls k  true _ A3.out).mono ?_); rintro e w6 ⟨rfl, hb⟩; have n0_ := Aside0.mk (below_step (by repeat (first | (with_reducible first | exact HB.out | apply below_alloc | apply pw_below_drewN | apply below_drew1) | exact HB.out)) hb); clear HB; have HB := n0_; clear n0_; (try clear hb); (try clear hb2); (try clear hk); (try clear hi))))
      go_ret
      exact ⟨by first | rfl | (simp [errW_none, errW_some] <;> rfl) | (simp [*, errW_none, errW_some] <;> rfl), by repeat (first | (with_reducible first | exact HB.out | apply below_alloc | apply pw_below_drewN | apply below_drew1) | exact HB.out)⟩
    · rw [if_neg c5] at H
      have c5b0 : decide (200 < (l1.length : Int)) = false := decide_eq_false c5
      have c5b1 : decide (200 < l1.length) = false := decide_eq_false (by omega)
      clear c5
      replace H := Option.bind_eq_some_iff.mp H
      obtain ⟨⟨t263, t264⟩, A70, H⟩ := H
      replace H : (if t264 = 0 then ((money_Sum.f k t263).bind fun bt267 => (if bt267.2 = 0 then (if bt267.1 = a0 then (lombardlaw01_MoneyWhole.j0 k a0 l1 t263 ((t263.length : Int) != (l1.length : Int))) else (lombardlaw01_MoneyWhole.j0 k a0 l1 t263 true)) else (lombardlaw01_MoneyWhole.j0 k a0 l1 t263 true))) else (some ((t263.length : Int) == 0))) = some r := H
      have A7 := Aside0.mk A70
      clear A70
      by_cases c8 : t264 = 0
      · rw [if_pos c8] at H
        have c8b0 : (t264 == 0) = true := beq_iff_eq.mpr c8
        have c8b1 : (t264 != 0) = false := bne_eq_false_iff_eq.mpr c8
        clear c8
        replace H := Option.bind_eq_some_iff.mp H
        obtain ⟨⟨t267, t268⟩, A90, H⟩ := H
        replace H : (if t268 = 0 then (if t267 = a0 then (lombardlaw01_MoneyWhole.j0 k a0 l1 t263 ((t263.length : Int) != (l1.length : Int))) else (lombardlaw01_MoneyWhole.j0 k a0 l1 t263 true)) else (lombardlaw01_MoneyWhole.j0 k a0 l1 t263 true)) = some r := H
        have A9 := Aside0.mk A90
        clear A90
        have HC10 := Aside0.mk H
        clear H
        go_enter Try.func7, Try.ntmps7
        go_upto_region 9 with (first | (go_at_call 20; (with_reducible refine (lombardlaw01_alive.calls k  true _ A3.out).mono ?_); rintro e w11 ⟨rfl, hb⟩; have n0_ := Aside0.mk (below_step (by repeat (first | (with_reducible first | exact HB.out | apply below_alloc | apply pw_below_drewN | apply below_drew1) | exact HB.out)) hb); clear HB; have HB := n0_; clear n0_; (try clear hb); (try clear hb2); (try clear hk); (try clear hi)) | (go_at_call 24; (with_reducible refine (money_Split.calls k a0 _ _ l1 t263 t264 _ ?side1 ?side2 A7.out).mono ?_); (case side1 => repeat (first | exact (Kd.C_below HR1.out HB.out) | (with_reducible refine Kd.C_alloc ?_ _) | (with_reducible refine Kd.C_drewN ?_ _) | (with_reducible refine Kd.C_drew ?_))); (case side2 => exact HC1.out); rintro e w12 ⟨v265, rfl, ho0, hb⟩; have n0_ := Aside0.mk (Kd.R_lower ho0 (below_size (by repeat (first | (with_reducible first | exact HB.out | apply below_alloc | apply pw_below_drewN | apply below_drew1) | exact HB.out)))); have n1_ := Aside0.mk (below_step (by repeat (first | (with_reducible first | exact HB.out | apply below_alloc | apply pw_below_drewN | apply below_drew1) | exact HB.out)) hb); clear HB; have HO266 := n0_; have HB := n1_; clear n0_ n1_; (try clear hb); (try clear hb2); (try clear hk); (try clear hi); (try clear ho0); obtain ⟨Ao13, co13, eo13⟩ := Kd.R_slice HO266.out; subst eo13) | (go_at_call 21; (with_reducible refine (money_Sum.calls k _ _ t263 t267 t268 _ ?side1 ?side2 A9.out).mono ?_); (case side1 => repeat (first | exact (Kd.R_reads' HO266.out).2.2 | (with_reducible refine Kd.C_alloc ?_ _) | (with_reducible refine Kd.C_drewN ?_ _) | (with_reducible refine Kd.C_drew ?_))); (case side2 => exact (Kd.R_reads' HO266.out).2.1); rintro e w' ⟨rfl, ⟨nd, rfl⟩⟩; (try first | exact ⟨rfl, _, World.drewN_drewN _ _ _⟩ | exact ⟨rfl, _, Eq.trans (World.drewN_drewN _ _ _) (congrArg (World.drewN _) (Nat.add_assoc _ _ _))⟩)))
        repeat (go_quiet (first | (go_at_call 20; (with_reducible refine (lombardlaw01_alive.calls k  true _ A3.out).mono ?_); rintro e w11 ⟨rfl, hb⟩; have n0_ := Aside0.mk (below_step (by repeat (first | (with_reducible first | exact HB.out | apply below_alloc | apply pw_below_drewN | apply below_drew1) | exact HB.out)) hb); clear HB; have HB := n0_; clear n0_; (try clear hb); (try clear hb2); (try clear hk); (try clear hi)) | (go_at_call 24; (with_reducible refine (money_Split.calls k a0 _ _ l1 t263 t264 _ ?side1 ?side2 A7.out).mono ?_); (case side1 => repeat (first | exact (Kd.C_below HR1.out HB.out) | (with_reducible refine Kd.C_alloc ?_ _) | (with_reducible refine Kd.C_drewN ?_ _) | (with_reducible refine Kd.C_drew ?_))); (case side2 => exact HC1.out); rintro e w12 ⟨v265, rfl, ho0, hb⟩; have n0_ := Aside0.mk (Kd.R_lower ho0 (below_size (by repeat (first | (with_reducible first | exact HB.out | apply below_alloc | apply pw_below_drewN | apply below_drew1) | exact HB.out)))); have n1_ := Aside0.mk (below_step (by repeat (first | (with_reducible first | exact HB.out | apply below_alloc | apply pw_below_drewN | apply below_drew1) | exact HB.out)) hb); clear HB; have HO266 := n0_; have HB := n1_; clear n0_ n1_; (try clear hb); (try clear hb2); (try clear hk); (try clear hi); (try clear ho0); obtain ⟨Ao13, co13, eo13⟩ := Kd.R_slice HO266.out; subst eo13) | (go_at_call 21; (with_reducible refine (money_Sum.calls k _ _ t263 t267 t268 _ ?side1 ?side2 A9.out).mono ?_); (case side1 => repeat (first | exact (Kd.R_reads' HO266.out).2.2 | (with_reducible refine Kd.C_alloc ?_ _) | (with_reducible refine Kd.C_drewN ?_ _) | (with_reducible refine Kd.C_drew ?_))); (case side2 => exact (Kd.R_reads' HO266.out).2.1); rintro e w' ⟨rfl, ⟨nd, rfl⟩⟩; (try first | exact ⟨rfl, _, World.drewN_drewN _ _ _⟩ | exact ⟨rfl, _, Eq.trans (World.drewN_drewN _ _ _) (congrArg (World.drewN _) (Nat.add_assoc _ _ _))⟩))); go_upto_region 9 with (first | (go_at_call 20; (with_reducible refine (lombardlaw01_alive.calls k  true _ A3.out).mono ?_); rintro e w11 ⟨rfl, hb⟩; have n0_ := Aside0.mk (below_step (by repeat (first | (with_reducible first | exact HB.out | apply below_alloc | apply pw_below_drewN | apply below_drew1) | exact HB.out)) hb); clear HB; have HB := n0_; clear n0_; (try clear hb); (try clear hb2); (try clear hk); (try clear hi)) | (go_at_call 24; (with_reducible refine (money_Split.calls k a0 _ _ l1 t263 t264 _ ?side1 ?side2 A7.out).mono ?_); (case side1 => repeat (first | exact (Kd.C_below HR1.out HB.out) | (with_reducible refine Kd.C_alloc ?_ _) | (with_reducible refine Kd.C_drewN ?_ _) | (with_reducible refine Kd.C_drew ?_))); (case side2 => exact HC1.out); rintro e w12 ⟨v265, rfl, ho0, hb⟩; have n0_ := Aside0.mk (Kd.R_lower ho0 (below_size (by repeat (first | (with_reducible first | exact HB.out | apply below_alloc | apply pw_below_drewN | apply below_drew1) | exact HB.out)))); have n1_ := Aside0.mk (below_step (by repeat (first | (with_reducible first | exact HB.out | apply below_alloc | apply pw_below_drewN | apply below_drew1) | exact HB.out)) hb); clear HB; have HO266 := n0_; have HB := n1_; clear n0_ n1_; (try clear hb); (try clear hb2); (try clear hk); (try clear hi); (try clear ho0); obtain ⟨Ao13, co13, eo13⟩ := Kd.R_slice HO266.out; subst eo13) | (go_at_call 21; (with_reducible refine (money_Sum.calls k _ _ t263 t267 t268 _ ?side1 ?side2 A9.out).mono ?_); (case side1 => repeat (first | exact (Kd.R_reads' HO266.out).2.2 | (with_reducible refine Kd.C_alloc ?_ _) | (with_reducible refine Kd.C_drewN ?_ _) | (with_reducible refine Kd.C_drew ?_))); (case side2 => exact (Kd.R_reads' HO266.out).2.1); rintro e w' ⟨rfl, ⟨nd, rfl⟩⟩; (try first | exact ⟨rfl, _, World.drewN_drewN _ _ _⟩ | exact ⟨rfl, _, Eq.trans (World.drewN_drewN _ _ _) (congrArg (World.drewN _) (Nat.add_assoc _ _ _))⟩))))
        (try simp only [Act.put, List.setIfInBounds_toArray, List.set_cons_zero, List.set_cons_succ])
        go_cut [47] (fun v47 wc => ∃ (kq : Nat) (x47_9 : Bool), v47 = .bool x47_9 ∧ Aside0 (lombardlaw01_MoneyWhole.j0 kq a0 l1 t263 x47_9 = some r) ∧ Aside0 (kq ≤ k) ∧ Aside0 (Kd.R (Kd.int .i64) 2 wc w.heap.size (fun _ => True) (.slice Ao13 t263.length co13) t263) ∧ Aside0 (Below w.heap.size w wc))
        case first =>
          have H := HC10.out
          clear HC10
          by_cases c14 : t268 = 0
          · rw [if_pos c14] at H
            have c14b0 : (t268 == 0) = true := beq_iff_eq.mpr c14
            have c14b1 : (t268 != 0) = false := bne_eq_false_iff_eq.mpr c14
            clear c14
            (first | rw [c14b0] | (simp only [i64_w, i32_w]; rw [c14b0]) | skip)
            by_cases c15 : t267 = a0
            · rw [if_pos c15] at H
              have c15b0 : (t267 == a0) = true := beq_iff_eq.mpr c15
              have c15b1 : (t267 != a0) = false := bne_eq_false_iff_eq.mpr c15
              clear c15
              have H' := Aside0.mk H
              clear H
              go_wp2
              repeat (go_quiet (fail); try go_wp2)
              go_meet
              case rel => exact ⟨_, (((t263.length : Int) != (l1.length : Int))), (by first | rfl | (simp; done) | (simp [*]; done)), H', ⟨by first | omega | exact Nat.le_refl _⟩, ⟨by (with_reducible repeat (first | apply Kd.R_alloc | apply Kd.R_drewN | apply Kd.R_drew)); exact HO266.out⟩, ⟨by repeat (first | (with_reducible first | exact HB.out | apply below_alloc | apply pw_below_drewN | apply below_drew1) | exact HB.out)⟩⟩
            · rw [if_neg c15] at H
              have c15b0 : (t267 == a0) = false := beq_eq_false_iff_ne.mpr c15
              have c15b1 : (t267 != a0) = true := bne_iff_ne.mpr c15
              have H' := Aside0.mk H
              clear H
              go_wp2
              repeat (go_quiet (fail); try go_wp2)
              go_meet
              case rel => exact ⟨_, (true), (by first | rfl | (simp; done) | (simp [*]; done)), H', ⟨by first | omega | exact Nat.le_refl _⟩, ⟨by (with_reducible repeat (first | apply Kd.R_alloc | apply Kd.R_drewN | apply Kd.R_drew)); exact HO266.out⟩, ⟨by repeat (first | (with_reducible first | exact HB.out | apply below_alloc | apply pw_below_drewN | apply below_drew1) | exact HB.out)⟩⟩
          · rw [if_neg c14] at H
            have c14b0 : (t268 == 0) = false := beq_eq_false_iff_ne.mpr c14
            have c14b1 : (t268 != 0) = true := bne_iff_ne.mpr c14
            (first | rw [c14b0] | (simp only [i64_w, i32_w]; rw [c14b0]) | skip)
            have H' := Aside0.mk H
            clear H
            go_wp2
            repeat (go_quiet (fail); try go_wp2)
            go_meet
            case rel => exact ⟨_, (true), (by first | rfl | (simp; done) | (simp [*]; done)), H', ⟨by first | omega | exact Nat.le_refl _⟩, ⟨by (with_reducible repeat (first | apply Kd.R_alloc | apply Kd.R_drewN | apply Kd.R_drew)); exact HO266.out⟩, ⟨by repeat (first | (with_reducible first | exact HB.out | apply below_alloc | apply pw_below_drewN | apply below_drew1) | exact HB.out)⟩⟩
        case rest =>
          clear HC10
          try clear c1
          try clear p2
          try clear c4
          try clear c5
          try clear c5b0
          try clear c5b1
          try clear c7
          try clear c8
          try clear c8b0
          try clear c8b1
          try clear c14
          try clear c14b0
          try clear c14b1
          try clear c15
          try clear c15b0
          try clear c15b1
          obtain ⟨kq, x47_9, rfl, HA, HJ9, HO_5, HB⟩ := hcut
          cases kq with
          | zero => exact absurd HA.out (by simp [lombardlaw01_MoneyWhole.j0])
          | succ kj9 =>
            have H := HA.out
            clear HA
            simp only [lombardlaw01_MoneyWhole.j0] at H
            by_cases c16 : x47_9 = true
            · subst c16
              have H1 : (some false) = some r := by rw [if_pos rfl] at H; exact H
              clear H
              have H := H1
              clear H1
              obtain rfl := Option.some.inj H
              go_wp2
              repeat (go_quiet (fail); try go_wp2)
              go_ret
              exact ⟨by first | rfl | (simp [errW_none, errW_some] <;> rfl) | (simp [*, errW_none, errW_some] <;> rfl), by repeat (first | (with_reducible first | exact HB.out | apply below_alloc | apply pw_below_drewN | apply below_drew1) | exact HB.out)⟩
            · replace c16 := Bool.eq_false_iff.mpr c16
              subst c16
              have H1 : (lombardlaw01_MoneyWhole.l0 kj9 a0 l1 t263 t263 (t263.length : Int) 0) = some r := by rw [if_neg (show ¬ (false = true) by decide)] at H; exact H
              clear H
              have H := H1
              clear H1
              have H' := Aside0.mk H
              clear H
              go_wp2
              repeat (go_quiet (fail); try go_wp2)
              go_loopg [50] kj9 (fun kq v50 w' => ∃ (x50_2 : Int), v50 = .int .i64 x50_2 ∧ Aside0 (lombardlaw01_MoneyWhole.l0 kq a0 l1 t263 t263 (t263.length : Int) x50_2 = some r) ∧ Aside0 (kq ≤ kj9) ∧ Aside0 (Kd.R (Kd.int .i64) 2 w' w.heap.size (fun _ => True) (.slice Ao13 t263.length co13) t263) ∧ Aside0 (Kd.R (Kd.int .i64) 2 w' w.heap.size (fun _ => True) (.slice Ao13 t263.length co13) t263) ∧ Aside0 (Below w.heap.size w w'))
              case atStart => exact ⟨(0), (by first | rfl | (simp; done) | (simp [*]; done)), H', ⟨Nat.le_refl _⟩, ⟨by (with_reducible repeat (first | apply Kd.R_alloc | apply Kd.R_drewN | apply Kd.R_drew)); exact HO_5.out⟩, ⟨by (with_reducible repeat (first | apply Kd.R_alloc | apply Kd.R_drewN | apply Kd.R_drew)); exact HO_5.out⟩, ⟨by repeat (first | (with_reducible first | exact HB.out | apply below_alloc | apply pw_below_drewN | apply below_drew1) | exact HB.out)⟩⟩
              case round =>
                clear H'
                try clear c1
                try clear p2
                try clear c4
                try clear c5
                try clear c5b0
                try clear c5b1
                try clear c7
                try clear c8
                try clear c8b0
                try clear c8b1
                try clear c14
                try clear c14b0
                try clear c14b1
                try clear c15
                try clear c15b0
                try clear c15b1
                try clear c16
                try clear p2
                obtain ⟨x50_2, rfl, HA, HK2, HO_5, HO_48, HB⟩ := hrel
                cases gk with
                | zero => exact absurd HA.out (by simp [lombardlaw01_MoneyWhole.l0])
                | succ k2 =>
                  have H := HA.out
                  clear HA
                  simp only [lombardlaw01_MoneyWhole.l0] at H
                  by_cases c17 : x50_2 < (t263.length : Int)
                  · rw [if_pos c17] at H
                    have c17b0 : decide (x50_2 < (t263.length : Int)) = true := decide_eq_true c17
                    clear c17
                    by_cases c18 : 0 ≤ x50_2
                    · rw [if_pos c18] at H
                      have c18b0 : decide (0 ≤ x50_2) = true := decide_eq_true c18
                      clear c18
                      by_cases c19 : x50_2 < (t263.length : Int)
                      · rw [if_pos c19] at H
                        have c19b0 : decide (x50_2 < (t263.length : Int)) = true := decide_eq_true c19
                        clear c19
                        have HC20 := Aside0.mk H
                        clear H
                        have p269 : 0 ≤ (x50_2 : Int) := of_decide_eq_true (by first | (with_reducible assumption) | assumption)
                        have q269 : x50_2 < (t263.length : Int) := of_decide_eq_true (by first | (with_reducible assumption) | assumption)
                        obtain ⟨ad269, e269, hx269_0⟩ := Kd.at_int (Kd.R_reads' HO_48.out).2.2 x50_2 p269 q269
                        cases e269
                        replace p269 := eq_true p269
                        replace q269 := eq_true q269
                        go_upto_region 14 with (fail)
                        repeat (go_quiet (fail); go_upto_region 14 with (fail))
                        go_cut [79] (fun v79 wc => ∃ (kq : Nat) (x79_19 : Bool), v79 = .bool x79_19 ∧ Aside0 (lombardlaw01_MoneyWhole.j2 kq a0 l1 t263 x50_2 (rd t263 x50_2) t263 (t263.length : Int) x50_2 x79_19 = some r) ∧ Aside0 (kq ≤ k2) ∧ Aside0 (Kd.R (Kd.int .i64) 2 wc w.heap.size (fun _ => True) (.slice (some ad269) t263.length co13) t263) ∧ Aside0 (Kd.R (Kd.int .i64) 2 wc w.heap.size (fun _ => True) (.slice (some ad269) t263.length co13) t263) ∧ Aside0 (Below w.heap.size w wc))
                        case first =>
                          have H := HC20.out
                          clear HC20
                          by_cases c21 : x50_2 < (l1.length : Int)
                          · rw [if_pos c21] at H
                            have c21b0 : decide (x50_2 < (l1.length : Int)) = true := decide_eq_true c21
                            clear c21
                            (first | rw [c21b0] | (simp only [i64_w, i32_w]; rw [c21b0]) | skip)
                            by_cases c22 : (rd l1 x50_2) = 0
                            · rw [if_pos c22] at H
                              have c22b0 : ((rd l1 x50_2) == 0) = true := beq_iff_eq.mpr c22
                              have c22b1 : ((rd l1 x50_2) != 0) = false := bne_eq_false_iff_eq.mpr c22
                              clear c22
                              by_cases c23 : (rd t263 x50_2) = 0
                              · rw [if_pos c23] at H
                                have c23b0 : ((rd t263 x50_2) == 0) = true := beq_iff_eq.mpr c23
                                have c23b1 : ((rd t263 x50_2) != 0) = false := bne_eq_false_iff_eq.mpr c23
                                clear c23
                                by_cases c24 : a0 ≥ 0
                                · rw [if_pos c24] at H
                                  have c24b0 : decide (0 ≤ a0) = true := decide_eq_true c24
                                  clear c24
                                  by_cases c25 : (rd t263 x50_2) < 0
                                  · rw [if_pos c25] at H
                                    have c25b0 : decide ((rd t263 x50_2) < 0) = true := decide_eq_true c25
                                    clear c25
                                    have H' := Aside0.mk H
                                    clear H
                                    have p270 : 0 ≤ (x50_2 : Int) := of_decide_eq_true (by first | (with_reducible assumption) | assumption)
                                    have q270 : x50_2 < (l1.length : Int) := of_decide_eq_true (by first | (with_reducible assumption) | assumption)
                                    obtain ⟨ad270, e270, hx270_0⟩ := Kd.at_int HR1.out x50_2 p270 q270
                                    cases e270
                                    try replace hx270_0 := (HB.out.cell (World.block_lt_of_cell? w _ hx270_0)).trans hx270_0
                                    replace p270 := eq_true p270
                                    replace q270 := eq_true q270
                                    go_wp2
                                    repeat (go_quiet (fail); try go_wp2)
                                    go_meet
                                    case rel => exact ⟨_, (true), (by first | rfl | (simp; done) | (simp [*]; done)), H', ⟨by have := HJ9.out; have := HK2.out; first | omega | exact Nat.le_refl _⟩, ⟨by (with_reducible repeat (first | apply Kd.R_alloc | apply Kd.R_drewN | apply Kd.R_drew)); exact HO_5.out⟩, ⟨by (with_reducible repeat (first | apply Kd.R_alloc | apply Kd.R_drewN | apply Kd.R_drew)); exact HO_48.out⟩, ⟨by repeat (first | (with_reducible first | exact HB.out | apply below_alloc | apply pw_below_drewN | apply below_drew1) | exact HB.out)⟩⟩
                                  · rw [if_neg c25] at H
                                    have c25b0 : decide ((rd t263 x50_2) < 0) = false := decide_eq_false c25
                                    clear c25
                                    by_cases c26 : a0 ≤ 0
                                    · rw [if_pos c26] at H
                                      have c26b0 : decide (a0 ≤ 0) = true := decide_eq_true c26
                                      clear c26
                                      have H' := Aside0.mk H
                                      clear H
                                      have p270 : 0 ≤ (x50_2 : Int) := of_decide_eq_true (by first | (with_reducible assumption) | assumption)
                                      have q270 : x50_2 < (l1.length : Int) := of_decide_eq_true (by first | (with_reducible assumption) | assumption)
                                      obtain ⟨ad270, e270, hx270_0⟩ := Kd.at_int HR1.out x50_2 p270 q270
                                      cases e270
                                      try replace hx270_0 := (HB.out.cell (World.block_lt_of_cell? w _ hx270_0)).trans hx270_0
                                      replace p270 := eq_true p270
                                      replace q270 := eq_true q270
                                      go_wp2
                                      repeat (go_quiet (fail); try go_wp2)
                                      go_meet
                                      case rel => exact ⟨_, (decide ((rd t263 x50_2) > 0)), (by first | rfl | (simp; done) | (simp [*]; done)), H', ⟨by have := HJ9.out; have := HK2.out; first | omega | exact Nat.le_refl _⟩, ⟨by (with_reducible repeat (first | apply Kd.R_alloc | apply Kd.R_drewN | apply Kd.R_drew)); exact HO_5.out⟩, ⟨by (with_reducible repeat (first | apply Kd.R_alloc | apply Kd.R_drewN | apply Kd.R_drew)); exact HO_48.out⟩, ⟨by repeat (first | (with_reducible first | exact HB.out | apply below_alloc | apply pw_below_drewN | apply below_drew1) | exact HB.out)⟩⟩
                                    · rw [if_neg c26] at H
                                      have c26b0 : decide (a0 ≤ 0) = false := decide_eq_false c26
                                      clear c26
                                      have H' := Aside0.mk H
                                      clear H
                                      have p270 : 0 ≤ (x50_2 : Int) := of_decide_eq_true (by first | (with_reducible assumption) | assumption)
                                      have q270 : x50_2 < (l1.length : Int) := of_decide_eq_true (by first | (with_reducible assumption) | assumption)
                                      obtain ⟨ad270, e270, hx270_0⟩ := Kd.at_int HR1.out x50_2 p270 q270
                                      cases e270
                                      try replace hx270_0 := (HB.out.cell (World.block_lt_of_cell? w _ hx270_0)).trans hx270_0
                                      replace p270 := eq_true p270
                                      replace q270 := eq_true q270
                                      go_wp2
                                      repeat (go_quiet (fail); try go_wp2)
                                      go_meet
                                      case rel => exact ⟨_, (false), (by first | rfl | (simp; done) | (simp [*]; done)), H', ⟨by have := HJ9.out; have := HK2.out; first | omega | exact Nat.le_refl _⟩, ⟨by (with_reducible repeat (first | apply Kd.R_alloc | apply Kd.R_drewN | apply Kd.R_drew)); exact HO_5.out⟩, ⟨by (with_reducible repeat (first | apply Kd.R_alloc | apply Kd.R_drewN | apply Kd.R_drew)); exact HO_48.out⟩, ⟨by repeat (first | (with_reducible first | exact HB.out | apply below_alloc | apply pw_below_drewN | apply below_drew1) | exact HB.out)⟩⟩
                                · rw [if_neg c24] at H
                                  have c24b0 : decide (0 ≤ a0) = false := decide_eq_false c24
                                  clear c24
                                  by_cases c27 : a0 ≤ 0
                                  · rw [if_pos c27] at H
                                    have c27b0 : decide (a0 ≤ 0) = true := decide_eq_true c27
                                    clear c27
                                    have H' := Aside0.mk H
                                    clear H
                                    have p270 : 0 ≤ (x50_2 : Int) := of_decide_eq_true (by first | (with_reducible assumption) | assumption)
                                    have q270 : x50_2 < (l1.length : Int) := of_decide_eq_true (by first | (with_reducible assumption) | assumption)
                                    obtain ⟨ad270, e270, hx270_0⟩ := Kd.at_int HR1.out x50_2 p270 q270
                                    cases e270
                                    try replace hx270_0 := (HB.out.cell (World.block_lt_of_cell? w _ hx270_0)).trans hx270_0
                                    replace p270 := eq_true p270
                                    replace q270 := eq_true q270
                                    go_wp2
                                    repeat (go_quiet (fail); try go_wp2)
                                    go_meet
                                    case rel => exact ⟨_, (decide ((rd t263 x50_2) > 0)), (by first | rfl | (simp; done) | (simp [*]; done)), H', ⟨by have := HJ9.out; have := HK2.out; first | omega | exact Nat.le_refl _⟩, ⟨by (with_reducible repeat (first | apply Kd.R_alloc | apply Kd.R_drewN | apply Kd.R_drew)); exact HO_5.out⟩, ⟨by (with_reducible repeat (first | apply Kd.R_alloc | apply Kd.R_drewN | apply Kd.R_drew)); exact HO_48.out⟩, ⟨by repeat (first | (with_reducible first | exact HB.out | apply below_alloc | apply pw_below_drewN | apply below_drew1) | exact HB.out)⟩⟩
                                  · rw [if_neg c27] at H
                                    have c27b0 : decide (a0 ≤ 0) = false := decide_eq_false c27
                                    clear c27
                                    have H' := Aside0.mk H
                                    clear H
                                    have p270 : 0 ≤ (x50_2 : Int) := of_decide_eq_true (by first | (with_reducible assumption) | assumption)
                                    have q270 : x50_2 < (l1.length : Int) := of_decide_eq_true (by first | (with_reducible assumption) | assumption)
                                    obtain ⟨ad270, e270, hx270_0⟩ := Kd.at_int HR1.out x50_2 p270 q270
                                    cases e270
                                    try replace hx270_0 := (HB.out.cell (World.block_lt_of_cell? w _ hx270_0)).trans hx270_0
                                    replace p270 := eq_true p270
                                    replace q270 := eq_true q270
                                    go_wp2
                                    repeat (go_quiet (fail); try go_wp2)
                                    go_meet
                                    case rel => exact ⟨_, (false), (by first | rfl | (simp; done) | (simp [*]; done)), H', ⟨by have := HJ9.out; have := HK2.out; first | omega | exact Nat.le_refl _⟩, ⟨by (with_reducible repeat (first | apply Kd.R_alloc | apply Kd.R_drewN | apply Kd.R_drew)); exact HO_5.out⟩, ⟨by (with_reducible repeat (first | apply Kd.R_alloc | apply Kd.R_drewN | apply Kd.R_drew)); exact HO_48.out⟩, ⟨by repeat (first | (with_reducible first | exact HB.out | apply below_alloc | apply pw_below_drewN | apply below_drew1) | exact HB.out)⟩⟩
                              · rw [if_neg c23] at H
                                have c23b0 : ((rd t263 x50_2) == 0) = false := beq_eq_false_iff_ne.mpr c23
                                have c23b1 : ((rd t263 x50_2) != 0) = true := bne_iff_ne.mpr c23
                                have H' := Aside0.mk H
                                clear H
                                have p270 : 0 ≤ (x50_2 : Int) := of_decide_eq_true (by first | (with_reducible assumption) | assumption)
                                have q270 : x50_2 < (l1.length : Int) := of_decide_eq_true (by first | (with_reducible assumption) | assumption)
                                obtain ⟨ad270, e270, hx270_0⟩ := Kd.at_int HR1.out x50_2 p270 q270
                                cases e270
                                try replace hx270_0 := (HB.out.cell (World.block_lt_of_cell? w _ hx270_0)).trans hx270_0
                                replace p270 := eq_true p270
                                replace q270 := eq_true q270
                                go_wp2
                                repeat (go_quiet (fail); try go_wp2)
                                go_meet
                                case rel => exact ⟨_, (true), (by first | rfl | (simp; done) | (simp [*]; done)), H', ⟨by have := HJ9.out; have := HK2.out; first | omega | exact Nat.le_refl _⟩, ⟨by (with_reducible repeat (first | apply Kd.R_alloc | apply Kd.R_drewN | apply Kd.R_drew)); exact HO_5.out⟩, ⟨by (with_reducible repeat (first | apply Kd.R_alloc | apply Kd.R_drewN | apply Kd.R_drew)); exact HO_48.out⟩, ⟨by repeat (first | (with_reducible first | exact HB.out | apply below_alloc | apply pw_below_drewN | apply below_drew1) | exact HB.out)⟩⟩
                            · rw [if_neg c22] at H
                              have c22b0 : ((rd l1 x50_2) == 0) = false := beq_eq_false_iff_ne.mpr c22
                              have c22b1 : ((rd l1 x50_2) != 0) = true := bne_iff_ne.mpr c22
                              by_cases c28 : a0 ≥ 0
                              · rw [if_pos c28] at H
                                have c28b0 : decide (0 ≤ a0) = true := decide_eq_true c28
                                clear c28
                                by_cases c29 : (rd t263 x50_2) < 0
                                · rw [if_pos c29] at H
                                  have c29b0 : decide ((rd t263 x50_2) < 0) = true := decide_eq_true c29
                                  clear c29
                                  have H' := Aside0.mk H
                                  clear H
                                  have p270 : 0 ≤ (x50_2 : Int) := of_decide_eq_true (by first | (with_reducible assumption) | assumption)
                                  have q270 : x50_2 < (l1.length : Int) := of_decide_eq_true (by first | (with_reducible assumption) | assumption)
                                  obtain ⟨ad270, e270, hx270_0⟩ := Kd.at_int HR1.out x50_2 p270 q270
                                  cases e270
                                  try replace hx270_0 := (HB.out.cell (World.block_lt_of_cell? w _ hx270_0)).trans hx270_0
                                  replace p270 := eq_true p270
                                  replace q270 := eq_true q270
                                  go_wp2
                                  repeat (go_quiet (fail); try go_wp2)
                                  go_meet
                                  case rel => exact ⟨_, (true), (by first | rfl | (simp; done) | (simp [*]; done)), H', ⟨by have := HJ9.out; have := HK2.out; first | omega | exact Nat.le_refl _⟩, ⟨by (with_reducible repeat (first | apply Kd.R_alloc | apply Kd.R_drewN | apply Kd.R_drew)); exact HO_5.out⟩, ⟨by (with_reducible repeat (first | apply Kd.R_alloc | apply Kd.R_drewN | apply Kd.R_drew)); exact HO_48.out⟩, ⟨by repeat (first | (with_reducible first | exact HB.out | apply below_alloc | apply pw_below_drewN | apply below_drew1) | exact HB.out)⟩⟩
                                · rw [if_neg c29] at H
                                  have c29b0 : decide ((rd t263 x50_2) < 0) = false := decide_eq_false c29
                                  clear c29
                                  by_cases c30 : a0 ≤ 0
                                  · rw [if_pos c30] at H
                                    have c30b0 : decide (a0 ≤ 0) = true := decide_eq_true c30
                                    clear c30
                                    have H' := Aside0.mk H
                                    clear H
                                    have p270 : 0 ≤ (x50_2 : Int) := of_decide_eq_true (by first | (with_reducible assumption) | assumption)
                                    have q270 : x50_2 < (l1.length : Int) := of_decide_eq_true (by first | (with_reducible assumption) | assumption)
                                    obtain ⟨ad270, e270, hx270_0⟩ := Kd.at_int HR1.out x50_2 p270 q270
                                    cases e270
                                    try replace hx270_0 := (HB.out.cell (World.block_lt_of_cell? w _ hx270_0)).trans hx270_0
                                    replace p270 := eq_true p270
                                    replace q270 := eq_true q270
                                    go_wp2
                                    repeat (go_quiet (fail); try go_wp2)
                                    go_meet
                                    case rel => exact ⟨_, (decide ((rd t263 x50_2) > 0)), (by first | rfl | (simp; done) | (simp [*]; done)), H', ⟨by have := HJ9.out; have := HK2.out; first | omega | exact Nat.le_refl _⟩, ⟨by (with_reducible repeat (first | apply Kd.R_alloc | apply Kd.R_drewN | apply Kd.R_drew)); exact HO_5.out⟩, ⟨by (with_reducible repeat (first | apply Kd.R_alloc | apply Kd.R_drewN | apply Kd.R_drew)); exact HO_48.out⟩, ⟨by repeat (first | (with_reducible first | exact HB.out | apply below_alloc | apply pw_below_drewN | apply below_drew1) | exact HB.out)⟩⟩
                                  · rw [if_neg c30] at H
                                    have c30b0 : decide (a0 ≤ 0) = false := decide_eq_false c30
                                    clear c30
                                    have H' := Aside0.mk H
                                    clear H
                                    have p270 : 0 ≤ (x50_2 : Int) := of_decide_eq_true (by first | (with_reducible assumption) | assumption)
                                    have q270 : x50_2 < (l1.length : Int) := of_decide_eq_true (by first | (with_reducible assumption) | assumption)
                                    obtain ⟨ad270, e270, hx270_0⟩ := Kd.at_int HR1.out x50_2 p270 q270
                                    cases e270
                                    try replace hx270_0 := (HB.out.cell (World.block_lt_of_cell? w _ hx270_0)).trans hx270_0
                                    replace p270 := eq_true p270
                                    replace q270 := eq_true q270
                                    go_wp2
                                    repeat (go_quiet (fail); try go_wp2)
                                    go_meet
                                    case rel => exact ⟨_, (false), (by first | rfl | (simp; done) | (simp [*]; done)), H', ⟨by have := HJ9.out; have := HK2.out; first | omega | exact Nat.le_refl _⟩, ⟨by (with_reducible repeat (first | apply Kd.R_alloc | apply Kd.R_drewN | apply Kd.R_drew)); exact HO_5.out⟩, ⟨by (with_reducible repeat (first | apply Kd.R_alloc | apply Kd.R_drewN | apply Kd.R_drew)); exact HO_48.out⟩, ⟨by repeat (first | (with_reducible first | exact HB.out | apply below_alloc | apply pw_below_drewN | apply below_drew1) | exact HB.out)⟩⟩
                              · rw [if_neg c28] at H
                                have c28b0 : decide (0 ≤ a0) = false := decide_eq_false c28
                                clear c28
                                by_cases c31 : a0 ≤ 0
                                · rw [if_pos c31] at H
                                  have c31b0 : decide (a0 ≤ 0) = true := decide_eq_true c31
                                  clear c31
                                  have H' := Aside0.mk H
                                  clear H
                                  have p270 : 0 ≤ (x50_2 : Int) := of_decide_eq_true (by first | (with_reducible assumption) | assumption)
                                  have q270 : x50_2 < (l1.length : Int) := of_decide_eq_true (by first | (with_reducible assumption) | assumption)
                                  obtain ⟨ad270, e270, hx270_0⟩ := Kd.at_int HR1.out x50_2 p270 q270
                                  cases e270
                                  try replace hx270_0 := (HB.out.cell (World.block_lt_of_cell? w _ hx270_0)).trans hx270_0
                                  replace p270 := eq_true p270
                                  replace q270 := eq_true q270
                                  go_wp2
                                  repeat (go_quiet (fail); try go_wp2)
                                  go_meet
                                  case rel => exact ⟨_, (decide ((rd t263 x50_2) > 0)), (by first | rfl | (simp; done) | (simp [*]; done)), H', ⟨by have := HJ9.out; have := HK2.out; first | omega | exact Nat.le_refl _⟩, ⟨by (with_reducible repeat (first | apply Kd.R_alloc | apply Kd.R_drewN | apply Kd.R_drew)); exact HO_5.out⟩, ⟨by (with_reducible repeat (first | apply Kd.R_alloc | apply Kd.R_drewN | apply Kd.R_drew)); exact HO_48.out⟩, ⟨by repeat (first | (with_reducible first | exact HB.out | apply below_alloc | apply pw_below_drewN | apply below_drew1) | exact HB.out)⟩⟩
                                · rw [if_neg c31] at H
                                  have c31b0 : decide (a0 ≤ 0) = false := decide_eq_false c31
                                  clear c31
                                  have H' := Aside0.mk H
                                  clear H
                                  have p270 : 0 ≤ (x50_2 : Int) := of_decide_eq_true (by first | (with_reducible assumption) | assumption)
                                  have q270 : x50_2 < (l1.length : Int) := of_decide_eq_true (by first | (with_reducible assumption) | assumption)
                                  obtain ⟨ad270, e270, hx270_0⟩ := Kd.at_int HR1.out x50_2 p270 q270
                                  cases e270
                                  try replace hx270_0 := (HB.out.cell (World.block_lt_of_cell? w _ hx270_0)).trans hx270_0
                                  replace p270 := eq_true p270
                                  replace q270 := eq_true q270
                                  go_wp2
                                  repeat (go_quiet (fail); try go_wp2)
                                  go_meet
                                  case rel => exact ⟨_, (false), (by first | rfl | (simp; done) | (simp [*]; done)), H', ⟨by have := HJ9.out; have := HK2.out; first | omega | exact Nat.le_refl _⟩, ⟨by (with_reducible repeat (first | apply Kd.R_alloc | apply Kd.R_drewN | apply Kd.R_drew)); exact HO_5.out⟩, ⟨by (with_reducible repeat (first | apply Kd.R_alloc | apply Kd.R_drewN | apply Kd.R_drew)); exact HO_48.out⟩, ⟨by repeat (first | (with_reducible first | exact HB.out | apply below_alloc | apply pw_below_drewN | apply below_drew1) | exact HB.out)⟩⟩
                          · rw [if_neg c21] at H
                            exact absurd H (by simp)
                        case rest =>
                          clear HC20
                          try clear c1
                          try clear c2
                          try clear p2
                          try clear q2
                          try clear hx2
                          try clear c3
                          try clear c4
                          try clear c5
                          try clear c5b0
                          try clear c5b1
                          try clear c7
                          try clear c8
                          try clear c8b0
                          try clear c8b1
                          try clear c14
                          try clear c14b0
                          try clear c14b1
                          try clear c15
                          try clear c15b0
                          try clear c15b1
                          try clear c16
                          try clear c17
                          try clear c17b0
                          try clear c18
                          try clear c18b0
                          try clear c19
                          try clear c19b0
                          try clear c21
                          try clear c21b0
                          try clear c22
                          try clear c22b0
                          try clear c22b1
                          try clear c23
                          try clear c23b0
                          try clear c23b1
                          try clear c24
                          try clear c24b0
                          try clear c25
                          try clear c25b0
                          try clear c26
                          try clear c26b0
                          try clear p26
                          try clear q26
                          try clear hx26
                          try clear c27
                          try clear c27b0
                          try clear p27
                          try clear q27
                          try clear hx27
                          try clear c28
                          try clear c28b0
                          try clear c29
                          try clear c29b0
                          try clear c30
                          try clear c30b0
                          try clear c31
                          try clear c31b0
                          try clear hx269_0
                          try clear hx270_0
                          try clear p2
                          try clear p269
                          try clear p270
                          try clear q269
                          try clear q270
                          obtain ⟨kq, x79_19, rfl, HA, HJ19, HO_5, HO_48, HB⟩ := hcut
                          cases kq with
                          | zero => exact absurd HA.out (by simp [lombardlaw01_MoneyWhole.j2])
                          | succ kj19 =>
                            have H := HA.out
                            clear HA
                            simp only [lombardlaw01_MoneyWhole.j2] at H
                            by_cases c32 : x79_19 = true
                            · subst c32
                              have H1 : (some false) = some r := by rw [if_pos rfl] at H; exact H
                              clear H
                              have H := H1
                              clear H1
                              obtain rfl := Option.some.inj H
                              go_wp2
                              repeat (go_quiet (fail); try go_wp2)
                              go_ret
                              exact ⟨by first | rfl | (simp [errW_none, errW_some] <;> rfl) | (simp [*, errW_none, errW_some] <;> rfl), by repeat (first | (with_reducible first | exact HB.out | apply below_alloc | apply pw_below_drewN | apply below_drew1) | exact HB.out)⟩
                            · replace c32 := Bool.eq_false_iff.mpr c32
                              subst c32
                              have H1 : (if 0 ≤ x50_2 then (if x50_2 ≤ (t263.length : Int) then ((some (t263.take (x50_2 : Int).toNat : List Int)).bind fun y271 => (lombardlaw01_MoneyWhole.l1 kj19 a0 l1 t263 x50_2 (rd t263 x50_2) t263 (t263.length : Int) x50_2 y271 (y271.length : Int) 0)) else (none)) else (none)) = some r := by rw [if_neg (show ¬ (false = true) by decide)] at H; exact H
                              clear H
                              have H := H1
                              clear H1
                              by_cases c33 : 0 ≤ x50_2
                              · rw [if_pos c33] at H
                                have c33b0 := eq_true c33
                                have c33b1 : decide (0 ≤ x50_2) = true := decide_eq_true c33
                                clear c33
                                by_cases c34 : x50_2 ≤ (t263.length : Int)
                                · rw [if_pos c34] at H
                                  have c34b0 := eq_true c34
                                  have c34b1 : decide (x50_2 ≤ (t263.length : Int)) = true := decide_eq_true c34
                                  clear c34
                                  obtain ⟨y271, hy271⟩ : ∃ y_ : List Int, y_ = (t263.take (x50_2 : Int).toNat) := ⟨_, rfl⟩
                                  replace H : (lombardlaw01_MoneyWhole.l1 kj19 a0 l1 t263 x50_2 (rd t263 x50_2) t263 (t263.length : Int) x50_2 y271 (y271.length : Int) 0) = some r := by first | (rw [hy271]; with_reducible exact H) | (have H2_ := (Option.bind_some _ _).symm.trans H; rw [hy271]; with_reducible exact H2_) | (have H2_ := (Option.bind_some _ _).symm.trans H; with_reducible exact H2_) | with_reducible exact H | (rw [hy271]; exact H) | exact H
                                  have Ny271 := Aside0.mk hy271
                                  clear hy271
                                  have H' := Aside0.mk H
                                  clear H
                                  have q35 : (x50_2 : Int) ≤ ((t263.length : Int) : Int) := of_decide_eq_true (by first | (with_reducible assumption) | assumption)
                                  obtain ⟨i035, hi035, _, hsz35, _⟩ := info_parts info2
                                  have hroom35 : t263.length ≤ co13 := (Kd.R_reads' HO_5.out).2.1
                                  have hC35 : Kd.C (Kd.int .i64) _ (some ad269) t263.length t263 := (Kd.R_reads' HO_5.out).2.2
                                  have hcut35 := cut_to (P := Try.prog) 36 2 .i64 Try.underlying36 hi035 (some ad269) t263.length co13 x50_2 (of_decide_eq_true (by first | (with_reducible assumption) | assumption)) q35 hroom35
                                  have hr35 := Kd.C_take (m := (x50_2 : Int).toNat) hC35 (by omega)
                                  have hy35 : y271.length = (x50_2 : Int).toNat := (by rw [Ny271.out, List.length_take]; omega)
                                  rw [← Ny271.out] at hr35
                                  rw [← hy35] at hcut35
                                  have HR274 := Aside0.mk hr35
                                  have HC274 := Aside0.mk (show y271.length ≤ co13 from by omega)
                                  clear hr35 hC35 hroom35 hi035 hsz35
                                  have KY35 := Aside0.mk hy35
                                  clear hy35
                                  have KL35 := Aside0.mk (show (x50_2 : Int).toNat ≤ t263.length from by omega)
                                  replace q35 := eq_true q35
                                  go_wp2
                                  repeat (go_quiet (fail); try go_wp2)
                                  go_loopg [84] kj19 (fun kq v84 w' => ∃ (x84_4 : Int), v84 = .int .i64 x84_4 ∧ Aside0 (lombardlaw01_MoneyWhole.l1 kq a0 l1 t263 x50_2 (rd t263 x50_2) t263 (t263.length : Int) x50_2 y271 (y271.length : Int) x84_4 = some r) ∧ Aside0 (kq ≤ kj19) ∧ Aside0 (Kd.R (Kd.int .i64) 2 w' w.heap.size (fun _ => True) (.slice (some ad269) t263.length co13) t263) ∧ Aside0 (Kd.R (Kd.int .i64) 2 w' w.heap.size (fun _ => True) (.slice (some ad269) t263.length co13) t263) ∧ Aside0 (Kd.C (Kd.int .i64) w' (some ad269) y271.length y271) ∧ Aside0 (Below w.heap.size w w'))
                                  case atStart => exact ⟨(0), (by first | rfl | (simp; done) | (simp [*]; done)), H', ⟨Nat.le_refl _⟩, ⟨by (with_reducible repeat (first | apply Kd.R_alloc | apply Kd.R_drewN | apply Kd.R_drew)); exact HO_5.out⟩, ⟨by (with_reducible repeat (first | apply Kd.R_alloc | apply Kd.R_drewN | apply Kd.R_drew)); exact HO_48.out⟩, ⟨by repeat (first | (with_reducible exact HR274.out) | (with_reducible refine Kd.C_alloc ?_ _) | (with_reducible refine Kd.C_drewN ?_ _) | (with_reducible refine Kd.C_drew ?_) | exact HR274.out)⟩, ⟨by repeat (first | (with_reducible first | exact HB.out | apply below_alloc | apply pw_below_drewN | apply below_drew1) | exact HB.out)⟩⟩
                                  case round =>
                                    clear H'
                                    try clear c1
                                    try clear c2
                                    try clear p2
                                    try clear q2
                                    try clear hx2
                                    try clear c3
                                    try clear q3
                                    try clear c4
                                    try clear c5
                                    try clear c5b0
                                    try clear c5b1
                                    try clear c7
                                    try clear c8
                                    try clear c8b0
                                    try clear c8b1
                                    try clear c14
                                    try clear c14b0
                                    try clear c14b1
                                    try clear c15
                                    try clear c15b0
                                    try clear c15b1
                                    try clear c16
                                    try clear c17
                                    try clear c17b0
                                    try clear c18
                                    try clear c18b0
                                    try clear c19
                                    try clear c19b0
                                    try clear c21
                                    try clear c21b0
                                    try clear c22
                                    try clear c22b0
                                    try clear c22b1
                                    try clear c23
                                    try clear c23b0
                                    try clear c23b1
                                    try clear c24
                                    try clear c24b0
                                    try clear c25
                                    try clear c25b0
                                    try clear c26
                                    try clear c26b0
                                    try clear p26
                                    try clear q26
                                    try clear hx26
                                    try clear c27
                                    try clear c27b0
                                    try clear p27
                                    try clear q27
                                    try clear hx27
                                    try clear c28
                                    try clear c28b0
                                    try clear c29
                                    try clear c29b0
                                    try clear c30
                                    try clear c30b0
                                    try clear c31
                                    try clear c31b0
                                    try clear c32
                                    try clear c33
                                    try clear c33b0
                                    try clear c33b1
                                    try clear c34
                                    try clear c34b0
                                    try clear c34b1
                                    try clear q35
                                    try clear hx269_0
                                    try clear hx270_0
                                    try clear p2
                                    try clear p26
                                    try clear p269
                                    try clear p27
                                    try clear p270
                                    try clear q2
                                    try clear q26
                                    try clear q269
                                    try clear q27
                                    try clear q270
                                    try clear q35
                                    obtain ⟨x84_4, rfl, HA, HK4, HO_5, HO_48, HR274, HB⟩ := hrel
                                    cases gk with
                                    | zero => exact absurd HA.out (by simp [lombardlaw01_MoneyWhole.l1])
                                    | succ k4 =>
                                      have H := HA.out
                                      clear HA
                                      simp only [lombardlaw01_MoneyWhole.l1] at H
                                      by_cases c36 : x84_4 < (y271.length : Int)
                                      · rw [if_pos c36] at H
                                        have c36b0 : decide (x84_4 < (y271.length : Int)) = true := decide_eq_true c36
                                        clear c36
                                        by_cases c37 : 0 ≤ x84_4
                                        · rw [if_pos c37] at H
                                          have c37b0 : decide (0 ≤ x84_4) = true := decide_eq_true c37
                                          clear c37
                                          by_cases c38 : x84_4 < (y271.length : Int)
                                          · rw [if_pos c38] at H
                                            have c38b0 : decide (x84_4 < (y271.length : Int)) = true := decide_eq_true c38
                                            clear c38
                                            have HC39 := Aside0.mk H
                                            clear H
                                            have p275 : 0 ≤ (x84_4 : Int) := of_decide_eq_true (by first | (with_reducible assumption) | assumption)
                                            have q275 : x84_4 < (y271.length : Int) := of_decide_eq_true (by first | (with_reducible assumption) | assumption)
                                            obtain ⟨ad275, e275, hx275_0⟩ := Kd.at_int HR274.out x84_4 p275 q275
                                            obtain rfl : ad269 = ad275 := (by injection e275)
                                            try replace hx275_0 := (HB.out.cell (World.block_lt_of_cell? w _ hx275_0)).trans hx275_0
                                            replace p275 := eq_true p275
                                            replace q275 := eq_true q275
                                            go_upto_region 19 with (fail)
                                            repeat (go_quiet (fail); go_upto_region 19 with (fail))
                                            have H := HC39.out
                                            clear HC39
                                            by_cases c40 : x84_4 < (l1.length : Int)
                                            · rw [if_pos c40] at H
                                              have c40b0 : decide (x84_4 < (l1.length : Int)) = true := decide_eq_true c40
                                              clear c40
                                              by_cases c41 : 0 ≤ x50_2
                                              · rw [if_pos c41] at H
                                                have c41b0 : decide (0 ≤ x50_2) = true := decide_eq_true c41
                                                clear c41
                                                by_cases c42 : x50_2 < (l1.length : Int)
                                                · rw [if_pos c42] at H
                                                  have c42b0 : decide (x50_2 < (l1.length : Int)) = true := decide_eq_true c42
                                                  clear c42
                                                  by_cases c43 : (rd l1 x84_4) = (rd l1 x50_2)
                                                  · rw [if_pos c43] at H
                                                    have c43b0 : ((rd l1 x84_4) == (rd l1 x50_2)) = true := beq_iff_eq.mpr c43
                                                    have c43b1 : ((rd l1 x84_4) != (rd l1 x50_2)) = false := bne_eq_false_iff_eq.mpr c43
                                                    clear c43
                                                    by_cases c44 : (wrap64 ((rd t263 x50_2) - (rd y271 x84_4))) > 1
                                                    · rw [if_pos c44] at H
                                                      have c44b0 : decide (1 < (wrap64 ((rd t263 x50_2) - (rd y271 x84_4)))) = true := decide_eq_true c44
                                                      clear c44
                                                      obtain rfl := Option.some.inj H
                                                      have p276 : 0 ≤ (x84_4 : Int) := of_decide_eq_true (by first | (with_reducible assumption) | assumption)
                                                      have q276 : x84_4 < (l1.length : Int) := of_decide_eq_true (by first | (with_reducible assumption) | assumption)
                                                      obtain ⟨ad276, e276, hx276_0⟩ := Kd.at_int HR1.out x84_4 p276 q276
                                                      cases e276
                                                      try replace hx276_0 := (HB.out.cell (World.block_lt_of_cell? w _ hx276_0)).trans hx276_0
                                                      replace p276 := eq_true p276
                                                      replace q276 := eq_true q276
                                                      have p277 : 0 ≤ (x50_2 : Int) := of_decide_eq_true (by first | (with_reducible assumption) | assumption)
                                                      have q277 : x50_2 < (l1.length : Int) := of_decide_eq_true (by first | (with_reducible assumption) | assumption)
                                                      obtain ⟨ad277, e277, hx277_0⟩ := Kd.at_int HR1.out x50_2 p277 q277
                                                      obtain rfl : ad276 = ad277 := (by injection e277)
                                                      try replace hx277_0 := (HB.out.cell (World.block_lt_of_cell? w _ hx277_0)).trans hx277_0
                                                      replace p277 := eq_true p277
                                                      replace q277 := eq_true q277
                                                      go_wp2
                                                      repeat (go_quiet (fail); try go_wp2)
                                                      go_ret
                                                      exact ⟨by first | rfl | (simp [errW_none, errW_some] <;> rfl) | (simp [*, errW_none, errW_some] <;> rfl), by repeat (first | (with_reducible first | exact HB.out | apply below_alloc | apply pw_below_drewN | apply below_drew1) | exact HB.out)⟩
                                                    · rw [if_neg c44] at H
                                                      have c44b0 : decide (1 < (wrap64 ((rd t263 x50_2) - (rd y271 x84_4)))) = false := decide_eq_false c44
                                                      clear c44
                                                      by_cases c45 : (wrap64 ((rd y271 x84_4) - (rd t263 x50_2))) > 1
                                                      · rw [if_pos c45] at H
                                                        have c45b0 : decide (1 < (wrap64 ((rd y271 x84_4) - (rd t263 x50_2)))) = true := decide_eq_true c45
                                                        clear c45
                                                        obtain rfl := Option.some.inj H
                                                        have p276 : 0 ≤ (x84_4 : Int) := of_decide_eq_true (by first | (with_reducible assumption) | assumption)
                                                        have q276 : x84_4 < (l1.length : Int) := of_decide_eq_true (by first | (with_reducible assumption) | assumption)
                                                        obtain ⟨ad276, e276, hx276_0⟩ := Kd.at_int HR1.out x84_4 p276 q276
                                                        cases e276
                                                        try replace hx276_0 := (HB.out.cell (World.block_lt_of_cell? w _ hx276_0)).trans hx276_0
                                                        replace p276 := eq_true p276
                                                        replace q276 := eq_true q276
                                                        have p277 : 0 ≤ (x50_2 : Int) := of_decide_eq_true (by first | (with_reducible assumption) | assumption)
                                                        have q277 : x50_2 < (l1.length : Int) := of_decide_eq_true (by first | (with_reducible assumption) | assumption)
                                                        obtain ⟨ad277, e277, hx277_0⟩ := Kd.at_int HR1.out x50_2 p277 q277
                                                        obtain rfl : ad276 = ad277 := (by injection e277)
                                                        try replace hx277_0 := (HB.out.cell (World.block_lt_of_cell? w _ hx277_0)).trans hx277_0
                                                        replace p277 := eq_true p277
                                                        replace q277 := eq_true q277
                                                        go_wp2
                                                        repeat (go_quiet (fail); try go_wp2)
                                                        go_ret
                                                        exact ⟨by first | rfl | (simp [errW_none, errW_some] <;> rfl) | (simp [*, errW_none, errW_some] <;> rfl), by repeat (first | (with_reducible first | exact HB.out | apply below_alloc | apply pw_below_drewN | apply below_drew1) | exact HB.out)⟩
                                                      · rw [if_neg c45] at H
                                                        have c45b0 : decide (1 < (wrap64 ((rd y271 x84_4) - (rd t263 x50_2)))) = false := decide_eq_false c45
                                                        clear c45
                                                        have H' := Aside0.mk H
                                                        clear H
                                                        have p276 : 0 ≤ (x84_4 : Int) := of_decide_eq_true (by first | (with_reducible assumption) | assumption)
                                                        have q276 : x84_4 < (l1.length : Int) := of_decide_eq_true (by first | (with_reducible assumption) | assumption)
                                                        obtain ⟨ad276, e276, hx276_0⟩ := Kd.at_int HR1.out x84_4 p276 q276
                                                        cases e276
                                                        try replace hx276_0 := (HB.out.cell (World.block_lt_of_cell? w _ hx276_0)).trans hx276_0
                                                        replace p276 := eq_true p276
                                                        replace q276 := eq_true q276
                                                        have p277 : 0 ≤ (x50_2 : Int) := of_decide_eq_true (by first | (with_reducible assumption) | assumption)
                                                        have q277 : x50_2 < (l1.length : Int) := of_decide_eq_true (by first | (with_reducible assumption) | assumption)
                                                        obtain ⟨ad277, e277, hx277_0⟩ := Kd.at_int HR1.out x50_2 p277 q277
                                                        obtain rfl : ad276 = ad277 := (by injection e277)
                                                        try replace hx277_0 := (HB.out.cell (World.block_lt_of_cell? w _ hx277_0)).trans hx277_0
                                                        replace p277 := eq_true p277
                                                        replace q277 := eq_true q277
                                                        go_wp2
                                                        repeat (go_quiet (fail); try go_wp2)
                                                        go_roundg k4
                                                        case measure => have := HJ9.out; have := HK2.out; have := HJ19.out; have := HK4.out; omega
                                                        case rel => exact ⟨(wrap64 (x84_4 + 1)), (by first | rfl | (simp; done) | (simp [*]; done)), H', ⟨by have := HJ9.out; have := HK2.out; have := HJ19.out; have := HK4.out; omega⟩, ⟨by (with_reducible repeat (first | apply Kd.R_alloc | apply Kd.R_drewN | apply Kd.R_drew)); exact HO_5.out⟩, ⟨by (with_reducible repeat (first | apply Kd.R_alloc | apply Kd.R_drewN | apply Kd.R_drew)); exact HO_48.out⟩, ⟨by repeat (first | (with_reducible exact HR274.out) | (with_reducible refine Kd.C_alloc ?_ _) | (with_reducible refine Kd.C_drewN ?_ _) | (with_reducible refine Kd.C_drew ?_) | exact HR274.out)⟩, ⟨by repeat (first | (with_reducible first | exact HB.out | apply below_alloc | apply pw_below_drewN | apply below_drew1) | exact HB.out)⟩⟩
                                                  · rw [if_neg c43] at H
                                                    have c43b0 : ((rd l1 x84_4) == (rd l1 x50_2)) = false := beq_eq_false_iff_ne.mpr c43
                                                    have c43b1 : ((rd l1 x84_4) != (rd l1 x50_2)) = true := bne_iff_ne.mpr c43
                                                    have H' := Aside0.mk H
                                                    clear H
                                                    have p276 : 0 ≤ (x84_4 : Int) := of_decide_eq_true (by first | (with_reducible assumption) | assumption)
                                                    have q276 : x84_4 < (l1.length : Int) := of_decide_eq_true (by first | (with_reducible assumption) | assumption)
                                                    obtain ⟨ad276, e276, hx276_0⟩ := Kd.at_int HR1.out x84_4 p276 q276
                                                    cases e276
                                                    try replace hx276_0 := (HB.out.cell (World.block_lt_of_cell? w _ hx276_0)).trans hx276_0
                                                    replace p276 := eq_true p276
                                                    replace q276 := eq_true q276
                                                    have p277 : 0 ≤ (x50_2 : Int) := of_decide_eq_true (by first | (with_reducible assumption) | assumption)
                                                    have q277 : x50_2 < (l1.length : Int) := of_decide_eq_true (by first | (with_reducible assumption) | assumption)
                                                    obtain ⟨ad277, e277, hx277_0⟩ := Kd.at_int HR1.out x50_2 p277 q277
                                                    obtain rfl : ad276 = ad277 := (by injection e277)
                                                    try replace hx277_0 := (HB.out.cell (World.block_lt_of_cell? w _ hx277_0)).trans hx277_0
                                                    replace p277 := eq_true p277
                                                    replace q277 := eq_true q277
                                                    go_wp2
                                                    repeat (go_quiet (fail); try go_wp2)
                                                    go_roundg k4
                                                    case measure => have := HJ9.out; have := HK2.out; have := HJ19.out; have := HK4.out; omega
                                                    case rel => exact ⟨(wrap64 (x84_4 + 1)), (by first | rfl | (simp; done) | (simp [*]; done)), H', ⟨by have := HJ9.out; have := HK2.out; have := HJ19.out; have := HK4.out; omega⟩, ⟨by (with_reducible repeat (first | apply Kd.R_alloc | apply Kd.R_drewN | apply Kd.R_drew)); exact HO_5.out⟩, ⟨by (with_reducible repeat (first | apply Kd.R_alloc | apply Kd.R_drewN | apply Kd.R_drew)); exact HO_48.out⟩, ⟨by repeat (first | (with_reducible exact HR274.out) | (with_reducible refine Kd.C_alloc ?_ _) | (with_reducible refine Kd.C_drewN ?_ _) | (with_reducible refine Kd.C_drew ?_) | exact HR274.out)⟩, ⟨by repeat (first | (with_reducible first | exact HB.out | apply below_alloc | apply pw_below_drewN | apply below_drew1) | exact HB.out)⟩⟩
                                                · rw [if_neg c42] at H
                                                  exact absurd H (by simp)
                                              · rw [if_neg c41] at H
                                                exact absurd H (by simp)
                                            · rw [if_neg c40] at H
                                              exact absurd H (by simp)
                                          · rw [if_neg c38] at H
                                            exact absurd H (by simp)
                                        · rw [if_neg c37] at H
                                          exact absurd H (by simp)
                                      · rw [if_neg c36] at H
                                        have c36b0 : decide (x84_4 < (y271.length : Int)) = false := decide_eq_false c36
                                        clear c36
                                        have H' := Aside0.mk H
                                        clear H
                                        go_wp2
                                        repeat (go_quiet (fail); try go_wp2)
                                        go_roundg k4
                                        case measure => have := HJ9.out; have := HK2.out; have := HJ19.out; have := HK4.out; omega
                                        case rel => exact ⟨(wrap64 (x50_2 + 1)), (by first | rfl | (simp; done) | (simp [*]; done)), H', ⟨by have := HJ9.out; have := HK2.out; have := HJ19.out; have := HK4.out; omega⟩, ⟨by (with_reducible repeat (first | apply Kd.R_alloc | apply Kd.R_drewN | apply Kd.R_drew)); exact HO_5.out⟩, ⟨by (with_reducible repeat (first | apply Kd.R_alloc | apply Kd.R_drewN | apply Kd.R_drew)); exact HO_48.out⟩, ⟨by repeat (first | (with_reducible first | exact HB.out | apply below_alloc | apply pw_below_drewN | apply below_drew1) | exact HB.out)⟩⟩
                                · rw [if_neg c34] at H
                                  exact absurd H (by simp)
                              · rw [if_neg c33] at H
                                exact absurd H (by simp)
                      · rw [if_neg c19] at H
                        exact absurd H (by simp)
                    · rw [if_neg c18] at H
                      exact absurd H (by simp)
                  · rw [if_neg c17] at H
                    have c17b0 : decide (x50_2 < (t263.length : Int)) = false := decide_eq_false c17
                    clear c17
                    obtain rfl := Option.some.inj H
                    go_wp2
                    repeat (go_quiet (fail); try go_wp2)
                    go_ret
                    exact ⟨by first | rfl | (simp [errW_none, errW_some] <;> rfl) | (simp [*, errW_none, errW_some] <;> rfl), by repeat (first | (with_reducible first | exact HB.out | apply below_alloc | apply pw_below_drewN | apply below_drew1) | exact HB.out)⟩
      · rw [if_neg c8] at H
        have c8b0 : (t264 == 0) = false := beq_eq_false_iff_ne.mpr c8
        have c8b1 : (t264 != 0) = true := bne_iff_ne.mpr c8
        obtain rfl := Option.some.inj H
        go_enter Try.func7, Try.ntmps7
        go_wp2_with (first | (go_at_call 20; (with_reducible refine (lombardlaw01_alive.calls k  true _ A3.out).mono ?_); rintro e w46 ⟨rfl, hb⟩; have n0_ := Aside0.mk (below_step (by repeat (first | (with_reducible first | exact HB.out | apply below_alloc | apply pw_below_drewN | apply below_drew1) | exact HB.out)) hb); clear HB; have HB := n0_; clear n0_; (try clear hb); (try clear hb2); (try clear hk); (try clear hi)) | (go_at_call 24; (with_reducible refine (money_Split.calls k a0 _ _ l1 t263 t264 _ ?side1 ?side2 A7.out).mono ?_); (case side1 => repeat (first | exact (Kd.C_below HR1.out HB.out) | (with_reducible refine Kd.C_alloc ?_ _) | (with_reducible refine Kd.C_drewN ?_ _) | (with_reducible refine Kd.C_drew ?_))); (case side2 => exact HC1.out); rintro e w47 ⟨v265, rfl, ho0, hb⟩; have n0_ := Aside0.mk (Kd.R_lower ho0 (below_size (by repeat (first | (with_reducible first | exact HB.out | apply below_alloc | apply pw_below_drewN | apply below_drew1) | exact HB.out)))); have n1_ := Aside0.mk (below_step (by repeat (first | (with_reducible first | exact HB.out | apply below_alloc | apply pw_below_drewN | apply below_drew1) | exact HB.out)) hb); clear HB; have HO266 := n0_; have HB := n1_; clear n0_ n1_; (try clear hb); (try clear hb2); (try clear hk); (try clear hi); (try clear ho0); obtain ⟨Ao48, co48, eo48⟩ := Kd.R_slice HO266.out; subst eo48))
        repeat (go_quiet (first | (go_at_call 20; (with_reducible refine (lombardlaw01_alive.calls k  true _ A3.out).mono ?_); rintro e w46 ⟨rfl, hb⟩; have n0_ := Aside0.mk (below_step (by repeat (first | (with_reducible first | exact HB.out | apply below_alloc | apply pw_below_drewN | apply below_drew1) | exact HB.out)) hb); clear HB; have HB := n0_; clear n0_; (try clear hb); (try clear hb2); (try clear hk); (try clear hi)) | (go_at_call 24; (with_reducible refine (money_Split.calls k a0 _ _ l1 t263 t264 _ ?side1 ?side2 A7.out).mono ?_); (case side1 => repeat (first | exact (Kd.C_below HR1.out HB.out) | (with_reducible refine Kd.C_alloc ?_ _) | (with_reducible refine Kd.C_drewN ?_ _) | (with_reducible refine Kd.C_drew ?_))); (case side2 => exact HC1.out); rintro e w47 ⟨v265, rfl, ho0, hb⟩; have n0_ := Aside0.mk (Kd.R_lower ho0 (below_size (by repeat (first | (with_reducible first | exact HB.out | apply below_alloc | apply pw_below_drewN | apply below_drew1) | exact HB.out)))); have n1_ := Aside0.mk (below_step (by repeat (first | (with_reducible first | exact HB.out | apply below_alloc | apply pw_below_drewN | apply below_drew1) | exact HB.out)) hb); clear HB; have HO266 := n0_; have HB := n1_; clear n0_ n1_; (try clear hb); (try clear hb2); (try clear hk); (try clear hi); (try clear ho0); obtain ⟨Ao48, co48, eo48⟩ := Kd.R_slice HO266.out; subst eo48)); try go_wp2_with (first | (go_at_call 20; (with_reducible refine (lombardlaw01_alive.calls k  true _ A3.out).mono ?_); rintro e w46 ⟨rfl, hb⟩; have n0_ := Aside0.mk (below_step (by repeat (first | (with_reducible first | exact HB.out | apply below_alloc | apply pw_below_drewN | apply below_drew1) | exact HB.out)) hb); clear HB; have HB := n0_; clear n0_; (try clear hb); (try clear hb2); (try clear hk); (try clear hi)) | (go_at_call 24; (with_reducible refine (money_Split.calls k a0 _ _ l1 t263 t264 _ ?side1 ?side2 A7.out).mono ?_); (case side1 => repeat (first | exact (Kd.C_below HR1.out HB.out) | (with_reducible refine Kd.C_alloc ?_ _) | (with_reducible refine Kd.C_drewN ?_ _) | (with_reducible refine Kd.C_drew ?_))); (case side2 => exact HC1.out); rintro e w47 ⟨v265, rfl, ho0, hb⟩; have n0_ := Aside0.mk (Kd.R_lower ho0 (below_size (by repeat (first | (with_reducible first | exact HB.out | apply below_alloc | apply pw_below_drewN | apply below_drew1) | exact HB.out)))); have n1_ := Aside0.mk (below_step (by repeat (first | (with_reducible first | exact HB.out | apply below_alloc | apply pw_below_drewN | apply below_drew1) | exact HB.out)) hb); clear HB; have HO266 := n0_; have HB := n1_; clear n0_ n1_; (try clear hb); (try clear hb2); (try clear hk); (try clear hi); (try clear ho0); obtain ⟨Ao48, co48, eo48⟩ := Kd.R_slice HO266.out; subst eo48)))
        go_ret
        exact ⟨by first | rfl | (simp [errW_none, errW_some] <;> rfl) | (simp [*, errW_none, errW_some] <;> rfl), by repeat (first | (with_reducible first | exact HB.out | apply below_alloc | apply pw_below_drewN | apply below_drew1) | exact HB.out)⟩
  · replace c4 := Bool.eq_false_iff.mpr c4
    subst c4
    have H1 : (some false) = some r := by rw [if_neg (show ¬ (false = true) by decide)] at H; exact H
    clear H
    have H := H1
    clear H1
    obtain rfl := Option.some.inj H
    go_enter Try.func7, Try.ntmps7
    go_wp2_with (first | (go_at_call 20; (with_reducible refine (lombardlaw01_alive.calls k  false _ A3.out).mono ?_); rintro e w49 ⟨rfl, hb⟩; have n0_ := Aside0.mk (below_step (by repeat (first | (with_reducible first | exact HB.out | apply below_alloc | apply pw_below_drewN | apply below_drew1) | exact HB.out)) hb); clear HB; have HB := n0_; clear n0_; (try clear hb); (try clear hb2); (try clear hk); (try clear hi)))
    repeat (go_quiet (first | (go_at_call 20; (with_reducible refine (lombardlaw01_alive.calls k  false _ A3.out).mono ?_); rintro e w49 ⟨rfl, hb⟩; have n0_ := Aside0.mk (below_step (by repeat (first | (with_reducible first | exact HB.out | apply below_alloc | apply pw_below_drewN | apply below_drew1) | exact HB.out)) hb); clear HB; have HB := n0_; clear n0_; (try clear hb); (try clear hb2); (try clear hk); (try clear hi))); try go_wp2_with (first | (go_at_call 20; (with_reducible refine (lombardlaw01_alive.calls k  false _ A3.out).mono ?_); rintro e w49 ⟨rfl, hb⟩; have n0_ := Aside0.mk (below_step (by repeat (first | (with_reducible first | exact HB.out | apply below_alloc | apply pw_below_drewN | apply below_drew1) | exact HB.out)) hb); clear HB; have HB := n0_; clear n0_; (try clear hb); (try clear hb2); (try clear hk); (try clear hi))))
    go_ret
    exact ⟨by first | rfl | (simp [errW_none, errW_some] <;> rfl) | (simp [*, errW_none, errW_some] <;> rfl), by repeat (first | (with_reducible first | exact HB.out | apply below_alloc | apply pw_below_drewN | apply below_drew1) | exact HB.out)⟩

/-- THE ONE PURE STATEMENT of lombardlaw01_MoneyWhole: yours. -/
def lombardlaw01_MoneyWhole.Pure : Prop := ∀ (a0 : Int) (l1 : List Int), (Lit.int .i64 a0).wf = true → l1.length ≤ maxLen → l1.length * 8 ≤ 140737488351232 → (∀ x ∈ l1, (Lit.int .i64 x).wf = true) → ∃ k, lombardlaw01_MoneyWhole.f k a0 l1 = some true
theorem lombardlaw01_MoneyWhole.walk (P : lombardlaw01_MoneyWhole.Pure) (a0 : Int) (a1 : Option Addr) (len1 cap1 : Nat) (z1 : List Int) (w : World) (w0 : (Lit.int .i64 a0).wf = true) (w1 : (a1 = none ∧ len1 = 0 ∧ cap1 = 0 ∧ z1 = []) ∨ ∃ x, a1 = some x ∧ len1 ≤ cap1 ∧ cap1 ≤ maxLen ∧ z1.length = cap1 ∧ (∀ i, i < z1.length → w.cell? (x.add i) = some (.int .i64 (z1.getD i 0))) ∧ ∀ n ∈ z1, (Lit.int .i64 n).wf = true) (y1 : len1 * 8 ≤ 140737488351232) :
    Calls Try.prog 7 #[.int .i64 a0, .slice a1 len1 cap1] w fun e w' => e = .returned (.bool true) ∧ Below w.heap.size w w' := by
  obtain ⟨l1, rfl, hr1, hm1, hw1, hc1⟩ := ReadsInt.ofRowC w1
  obtain ⟨k, h⟩ := P a0 l1 w0 hm1 y1 hw1
  refine (lombardlaw01_MoneyWhole.calls k a0 _ _ l1 true w (Kd.C_of_reads (d := (0 : Int)) (h1 := fun _ => rfl) hr1) hc1 h).mono ?_
  rintro e w' ⟨rfl, hd⟩
  exact ⟨rfl, hd⟩

end Go.Proofs.Ytohbdjfabghagaa.S
