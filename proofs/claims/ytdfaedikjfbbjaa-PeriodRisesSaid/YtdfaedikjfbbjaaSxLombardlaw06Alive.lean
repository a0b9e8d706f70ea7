/- Printed by a program of this session out of the translation: what each function called here computes, and that its call comes to just that. Conditions: none beyond those that each theorem names. -/
import Derived.Test.YtdfaedikjfbbjaaSx0
import Derived.Test.YtdfaedikjfbbjaaSxPeriodRoll
import Derived.Test.YtdfaedikjfbbjaaSxPeriodMonths
import Derived.Test.YtdfaedikjfbbjaaSxLombardlaw06On
namespace Go.Proofs.Ytdfaedikjfbbjaa.S
open Go.RowKit Go.Proofs.YtdfaedikjfbbjaaW.PrintWords Go.Proofs.YtdfaedikjfbbjaaW.PrintLast Go.Proofs.YtdfaedikjfbbjaaW.PrintMore
attribute [local go_sem] max2_int min2_int max_two min_two max_three min_three max_four min_four   -- for this text's walks alone
attribute [local go_sem] Go.Proofs.Ytdfaedikjfbbjaa.XWalk.cell2
set_option linter.unusedVariables false
set_option linter.unusedSimpArgs false

/-! ### lombardlaw06_alive: function 25 -/
def lombardlaw06_alive.f (k : Nat)  : Option (Bool) := (lombardlaw06_on.f k 2020 1 31).bind fun t272 => ((period_Months.f k t272 1 false).bind fun bt273 => ((lombardlaw06_on.f k 2020 2 29).bind fun t275 => ((period_Months.f k t275 1 true).bind fun bt276 => ((lombardlaw06_on.f k 2020 2 29).bind fun t278 => ((period_Roll.f k t278 1 ([] : List Int)).bind fun bt279 => ((lombardlaw06_on.f k 2020 2 29).bind fun t281 => ((period_Roll.f k t281 2 ([] : List Int)).bind fun bt282 => (if bt273.2 = 0 then (if bt276.2 = 0 then (if bt279.2 = 0 then (if bt282.2 = 0 then (if bt273.1 = 737484 then (if bt276.1 = 737515 then (if bt279.1 = 737486 then (if bt282.1 = 737483 then ((lombardlaw06_on.f k 2020 2 29).bind fun t284 => (some (bt273.1 == t284))) else (some false)) else (some false)) else (some false)) else (some false)) else (some false)) else (some false)) else (some false)) else (some false)))))))))
theorem lombardlaw06_alive.mono : ∀ k, LeO (lombardlaw06_alive.f k ) (lombardlaw06_alive.f (k + 1) ) := by
  intro  k
  unfold lombardlaw06_alive.f
  repeat' first
      | (with_reducible exact lombardlaw06_on.mono _ _ _ _)
      | (with_reducible exact period_Months.mono _ _ _ _)
      | (with_reducible exact period_Roll.mono _ _ _ _)
      | (with_reducible exact LeO.refl _)
      | (with_reducible exact LeO.none _)
      | (with_reducible refine LeO.ite ?_ ?_)
      | (with_reducible refine LeO.bind ?_ (fun _ => ?_))
      | exact lombardlaw06_on.mono _ _ _ _
      | exact period_Months.mono _ _ _ _
      | exact period_Roll.mono _ _ _ _
      | exact LeO.none _
      | refine LeO.ite ?_ ?_
      | refine LeO.bind ?_ (fun _ => ?_)
set_option maxHeartbeats 8000000 in
set_option maxRecDepth 100000 in
theorem lombardlaw06_alive.calls (k : Nat)  (r : Bool) (w : World) (h : lombardlaw06_alive.f k  = some r) :
    Calls Try.prog 25 #[] w fun e w' => e = .returned (.bool r) ∧ Below w.heap.size w w' := by
  have HB := Aside0.mk (Below.refl w.heap.size w)
  have H : ((lombardlaw06_on.f k 2020 1 31).bind fun t272 => ((period_Months.f k t272 1 false).bind fun bt273 => ((lombardlaw06_on.f k 2020 2 29).bind fun t275 => ((period_Months.f k t275 1 true).bind fun bt276 => ((lombardlaw06_on.f k 2020 2 29).bind fun t278 => ((period_Roll.f k t278 1 ([] : List Int)).bind fun bt279 => ((lombardlaw06_on.f k 2020 2 29).bind fun t281 => ((period_Roll.f k t281 2 ([] : List Int)).bind fun bt282 => (if bt273.2 = 0 then (if bt276.2 = 0 then (if bt279.2 = 0 then (if bt282.2 = 0 then (if bt273.1 = 737484 then (if bt276.1 = 737515 then (if bt279.1 = 737486 then (if bt282.1 = 737483 then ((lombardlaw06_on.f k 2020 2 29).bind fun t284 => (some (bt273.1 == t284))) else (some false)) else (some false)) else (some false)) else (some false)) else (some false)) else (some false)) else (some false)) else (some false)))))))))) = some r := h
  clear h
  replace H := Option.bind_eq_some_iff.mp H
  obtain ⟨t272, A10, H⟩ := H
  replace H : ((period_Months.f k t272 1 false).bind fun bt273 => ((lombardlaw06_on.f k 2020 2 29).bind fun t275 => ((period_Months.f k t275 1 true).bind fun bt276 => ((lombardlaw06_on.f k 2020 2 29).bind fun t278 => ((period_Roll.f k t278 1 ([] : List Int)).bind fun bt279 => ((lombardlaw06_on.f k 2020 2 29).bind fun t281 => ((period_Roll.f k t281 2 ([] : List Int)).bind fun bt282 => (if bt273.2 = 0 then (if bt276.2 = 0 then (if bt279.2 = 0 then (if bt282.2 = 0 then (if bt273.1 = 737484 then (if bt276.1 = 737515 then (if bt279.1 = 737486 then (if bt282.1 = 737483 then ((lombardlaw06_on.f k 2020 2 29).bind fun t284 => (some (bt273.1 == t284))) else (some false)) else (some false)) else (some false)) else (some false)) else (some false)) else (some false)) else (some false)) else (some false))))))))) = some r := H
  have A1 := Aside0.mk A10
  clear A10
  replace H := Option.bind_eq_some_iff.mp H
  obtain ⟨⟨t273, t274⟩, A20, H⟩ := H
  replace H : ((lombardlaw06_on.f k 2020 2 29).bind fun t275 => ((period_Months.f k t275 1 true).bind fun bt276 => ((lombardlaw06_on.f k 2020 2 29).bind fun t278 => ((period_Roll.f k t278 1 ([] : List Int)).bind fun bt279 => ((lombardlaw06_on.f k 2020 2 29).bind fun t281 => ((period_Roll.f k t281 2 ([] : List Int)).bind fun bt282 => (if t274 = 0 then (if bt276.2 = 0 then (if bt279.2 = 0 then (if bt282.2 = 0 then (if t273 = 737484 then (if bt276.1 = 737515 then (if bt279.1 = 737486 then (if bt282.1 = 737483 then ((lombardlaw06_on.f k 2020 2 29).bind fun t284 => (some (t273 == t284))) else (some false)) else (some false)) else (some false)) else (some false)) else (some false)) else (some false)) else (some false)) else (some false)))))))) = some r := H
  have A2 := Aside0.mk A20
  clear A20
  replace H := Option.bind_eq_some_iff.mp H
  obtain ⟨t275, A30, H⟩ := H
  replace H : ((period_Months.f k t275 1 true).bind fun bt276 => ((lombardlaw06_on.f k 2020 2 29).bind fun t278 => ((period_Roll.f k t278 1 ([] : List Int)).bind fun bt279 => ((lombardlaw06_on.f k 2020 2 29).bind fun t281 => ((period_Roll.f k t281 2 ([] : List Int)).bind fun bt282 => (if t274 = 0 then (if bt276.2 = 0 then (if bt279.2 = 0 then (if bt282.2 = 0 then (if t273 = 737484 then (if bt276.1 = 737515 then (if bt279.1 = 737486 then (if bt282.1 = 737483 then ((lombardlaw06_on.f k 2020 2 29).bind fun t284 => (some (t273 == t284))) else (some false)) else (some false)) else (some false)) else (some false)) else (some false)) else (some false)) else (some false)) else (some false))))))) = some r := H
  have A3 := Aside0.mk A30
  clear A30
  replace H := Option.bind_eq_some_iff.mp H
  obtain ⟨⟨t276, t277⟩, A40, H⟩ := H
  replace H : ((lombardlaw06_on.f k 2020 2 29).bind fun t278 => ((period_Roll.f k t278 1 ([] : List Int)).bind fun bt279 => ((lombardlaw06_on.f k 2020 2 29).bind fun t281 => ((period_Roll.f k t281 2 ([] : List Int)).bind fun bt282 => (if t274 = 0 then (if t277 = 0 then (if bt279.2 = 0 then (if bt282.2 = 0 then (if t273 = 737484 then (if t276 = 737515 then (if bt279.1 = 737486 then (if bt282.1 = 737483 then ((lombardlaw06_on.f k 2020 2 29).bind fun t284 => (some (t273 == t284))) else (some false)) else (some false)) else (some false)) else (some false)) else (some false)) else (some false)) else (some false)) else (some false)))))) = some r := H
  have A4 := Aside0.mk A40
  clear A40
  replace H := Option.bind_eq_some_iff.mp H
  obtain ⟨t278, A50, H⟩ := H
  replace H : ((period_Roll.f k t278 1 ([] : List Int)).bind fun bt279 => ((lombardlaw06_on.f k 2020 2 29).bind fun t281 => ((period_Roll.f k t281 2 ([] : List Int)).bind fun bt282 => (if t274 = 0 then (if t277 = 0 then (if bt279.2 = 0 then (if bt282.2 = 0 then (if t273 = 737484 then (if t276 = 737515 then (if bt279.1 = 737486 then (if bt282.1 = 737483 then ((lombardlaw06_on.f k 2020 2 29).bind fun t284 => (some (t273 == t284))) else (some false)) else (some false)) else (some false)) else (some false)) else (some false)) else (some false)) else (some false)) else (some false))))) = some r := H
  have A5 := Aside0.mk A50
  clear A50
  replace H := Option.bind_eq_some_iff.mp H
  obtain ⟨⟨t279, t280⟩, A60, H⟩ := H
  replace H : ((lombardlaw06_on.f k 2020 2 29).bind fun t281 => ((period_Roll.f k t281 2 ([] : List Int)).bind fun bt282 => (if t274 = 0 then (if t277 = 0 then (if t280 = 0 then (if bt282.2 = 0 then (if t273 = 737484 then (if t276 = 737515 then (if t279 = 737486 then (if bt282.1 = 737483 then ((lombardlaw06_on.f k 2020 2 29).bind fun t284 => (some (t273 == t284))) else (some false)) else (some false)) else (some false)) else (some false)) else (some false)) else (some false)) else (some false)) else (some false)))) = some r := H
  have A6 := Aside0.mk A60
  clear A60
  replace H := Option.bind_eq_some_iff.mp H
  obtain ⟨t281, A70, H⟩ := H
  replace H : ((period_Roll.f k t281 2 ([] : List Int)).bind fun bt282 => (if t274 = 0 then (if t277 = 0 then (if t280 = 0 then (if bt282.2 = 0 then (if t273 = 737484 then (if t276 = 737515 then (if t279 = 737486 then (if bt282.1 = 737483 then ((lombardlaw06_on.f k 2020 2 29).bind fun t284 => (some (t273 == t284))) else (some false)) else (some false)) else (some false)) else (some false)) else (some false)) else (some false)) else (some false)) else (some false))) = some r := H
  have A7 := Aside0.mk A70
  clear A70
  replace H := Option.bind_eq_some_iff.mp H
  obtain ⟨⟨t282, t283⟩, A80, H⟩ := H
  replace H : (if t274 = 0 then (if t277 = 0 then (if t280 = 0 then (if t283 = 0 then (if t273 = 737484 then (if t276 = 737515 then (if t279 = 737486 then (if t282 = 737483 then ((lombardlaw06_on.f k 2020 2 29).bind fun t284 => (some (t273 == t284))) else (some false)) else (some false)) else (some false)) else (some false)) else (some false)) else (some false)) else (some false)) else (some false)) = some r := H
  have A8 := Aside0.mk A80
  clear A80
  have HC9 := Aside0.mk H
  clear H
  go_enter Try.func25, Try.ntmps25
  go_upto_region 5 with (first | ((with_reducible refine gate_callee (f := 37) rfl ?_); refine goesL_ (some 10) rfl rfl Try.func37 (by kernel_rfl) rfl #[.int .i64 2020, .int .i64 1, .int .i64 31] rfl (by (try simp only [List.map_toArray, List.map_cons, List.map_nil]); first | done | rfl | (simp only [List.length_drop, List.length_take]; rfl)) ?_; (with_reducible refine (lombardlaw06_on.calls k 2020 1 31 t272 _ A1.out).mono ?_); rintro e w10 ⟨rfl, hb⟩; refine ⟨_, rfl, ?_⟩; have n0_ := Aside0.mk (below_step (by repeat (first | (with_reducible first | exact HB.out | apply below_alloc | apply pw_below_drewN | apply below_drew1) | exact HB.out)) hb); clear HB; have HB := n0_; clear n0_; (try clear hb); (try clear hb2); (try clear hk); (try clear hi)) | ((with_reducible refine gate_callee (f := 30) rfl ?_); refine goesL_ (some 11) rfl rfl Try.func30 (by kernel_rfl) rfl #[.int .i64 t272, .int .i64 1, .bool false] rfl (by (try simp only [List.map_toArray, List.map_cons, List.map_nil]); first | done | rfl | (simp only [List.length_drop, List.length_take]; rfl)) ?_; (with_reducible refine (period_Months.calls k t272 1 false t273 t274 _ A2.out).mono ?_); rintro e w11 ⟨rfl, hb⟩; refine ⟨_, rfl, ?_⟩; have n0_ := Aside0.mk (below_step (by repeat (first | (with_reducible first | exact HB.out | apply below_alloc | apply pw_below_drewN | apply below_drew1) | exact HB.out)) hb); clear HB; have HB := n0_; clear n0_; (try clear hb); (try clear hb2); (try clear hk); (try clear hi)) | ((with_reducible refine gate_callee (f := 37) rfl ?_); refine goesL_ (some 15) rfl rfl Try.func37 (by kernel_rfl) rfl #[.int .i64 2020, .int .i64 2, .int .i64 29] rfl (by (try simp only [List.map_toArray, List.map_cons, List.map_nil]); first | done | rfl | (simp only [List.length_drop, List.length_take]; rfl)) ?_; (with_reducible refine (lombardlaw06_on.calls k 2020 2 29 t275 _ A3.out).mono ?_); rintro e w12 ⟨rfl, hb⟩; refine ⟨_, rfl, ?_⟩; have n0_ := Aside0.mk (below_step (by repeat (first | (with_reducible first | exact HB.out | apply below_alloc | apply pw_below_drewN | apply below_drew1) | exact HB.out)) hb); clear HB; have HB := n0_; clear n0_; (try clear hb); (try clear hb2); (try clear hk); (try clear hi)) | ((with_reducible refine gate_callee (f := 30) rfl ?_); refine goesL_ (some 16) rfl rfl Try.func30 (by kernel_rfl) rfl #[.int .i64 t275, .int .i64 1, .bool true] rfl (by (try simp only [List.map_toArray, List.map_cons, List.map_nil]); first | done | rfl | (simp only [List.length_drop, List.length_take]; rfl)) ?_; (with_reducible refine (period_Months.calls k t275 1 true t276 t277 _ A4.out).mono ?_); rintro e w13 ⟨rfl, hb⟩; refine ⟨_, rfl, ?_⟩; have n0_ := Aside0.mk (below_step (by repeat (first | (with_reducible first | exact HB.out | apply below_alloc | apply pw_below_drewN | apply below_drew1) | exact HB.out)) hb); clear HB; have HB := n0_; clear n0_; (try clear hb); (try clear hb2); (try clear hk); (try clear hi)) | ((with_reducible refine gate_callee (f := 37) rfl ?_); refine goesL_ (some 20) rfl rfl Try.func37 (by kernel_rfl) rfl #[.int .i64 2020, .int .i64 2, .int .i64 29] rfl (by (try simp only [List.map_toArray, List.map_cons, List.map_nil]); first | done | rfl | (simp only [List.length_drop, List.length_take]; rfl)) ?_; (with_reducible refine (lombardlaw06_on.calls k 2020 2 29 t278 _ A5.out).mono ?_); rintro e w14 ⟨rfl, hb⟩; refine ⟨_, rfl, ?_⟩; have n0_ := Aside0.mk (below_step (by repeat (first | (with_reducible first | exact HB.out | apply below_alloc | apply pw_below_drewN | apply below_drew1) | exact HB.out)) hb); clear HB; have HB := n0_; clear n0_; (try clear hb); (try clear hb2); (try clear hk); (try clear hi)) | ((with_reducible refine gate_callee (f := 26) rfl ?_); refine goesL_ (some 21) rfl rfl Try.func26 (by kernel_rfl) rfl #[.int .i64 t278, .int .i64 1, .slice none 0 0] rfl (by (try simp only [List.map_toArray, List.map_cons, List.map_nil]); first | done | rfl | (simp only [List.length_drop, List.length_take]; rfl)) ?_; (refine (period_Roll.calls k t278 1 _ _ ([] : List Int) t279 t280 _ ?side1 ?side2 A6.out).mono ?_); (case side1 => exact Kd.C_nil _ _); (case side2 => exact Nat.le_refl _); rintro e w15 ⟨rfl, hb⟩; refine ⟨_, rfl, ?_⟩; have n0_ := Aside0.mk (below_step (by repeat (first | (with_reducible first | exact HB.out | apply below_alloc | apply pw_below_drewN | apply below_drew1) | exact HB.out)) hb); clear HB; have HB := n0_; clear n0_; (try clear hb); (try clear hb2); (try clear hk); (try clear hi)) | ((with_reducible refine gate_callee (f := 37) rfl ?_); refine goesL_ (some 25) rfl rfl Try.func37 (by kernel_rfl) rfl #[.int .i64 2020, .int .i64 2, .int .i64 29] rfl (by (try simp only [List.map_toArray, List.map_cons, List.map_nil]); first | done | rfl | (simp only [List.length_drop, List.length_take]; rfl)) ?_; (with_reducible refine (lombardlaw06_on.calls k 2020 2 29 t281 _ A7.out).mono ?_); rintro e w16 ⟨rfl, hb⟩; refine ⟨_, rfl, ?_⟩; have n0_ := Aside0.mk (below_step (by repeat (first | (with_reducible first | exact HB.out | apply below_alloc | apply pw_below_drewN | apply below_drew1) | exact HB.out)) hb); clear HB; have HB := n0_; clear n0_; (try clear hb); (try clear hb2); (try clear hk); (try clear hi)) | ((with_reducible refine gate_callee (f := 26) rfl ?_); refine goesL_ (some 26) rfl rfl Try.func26 (by kernel_rfl) rfl #[.int .i64 t281, .int .i64 2, .slice none 0 0] rfl (by (try simp only [List.map_toArray, List.map_cons, List.map_nil]); first | done | rfl | (simp only [List.length_drop, List.length_take]; rfl)) ?_; (refine (period_Roll.calls k t281 2 _ _ ([] : List Int) t282 t283 _ ?side1 ?side2 A8.out).mono ?_); (case side1 => exact Kd.C_nil _ _); (case side2 => exact Nat.le_refl _); rintro e w17 ⟨rfl, hb⟩; refine ⟨_, rfl, ?_⟩; have n0_ := Aside0.mk (below_step (by repeat (first | (with_reducible first | exact HB.out | apply below_alloc | apply pw_below_drewN | apply below_drew1) | exact HB.out)) hb); clear HB; have HB := n0_; clear n0_; (try clear hb); (try clear hb2); (try clear hk); (try clear hi)))
  have H := HC9.out
  clear HC9
  by_cases c18 : t274 = 0
  · rw [if_pos c18] at H
    have c18b0 : (t274 == 0) = true := beq_iff_eq.mpr c18
    have c18b1 : (t274 != 0) = false := bne_eq_false_iff_eq.mpr c18
    clear c18
    by_cases c19 : t277 = 0
    · rw [if_pos c19] at H
      have c19b0 : (t277 == 0) = true := beq_iff_eq.mpr c19
      have c19b1 : (t277 != 0) = false := bne_eq_false_iff_eq.mpr c19
      clear c19
      by_cases c20 : t280 = 0
      · rw [if_pos c20] at H
        have c20b0 : (t280 == 0) = true := beq_iff_eq.mpr c20
        have c20b1 : (t280 != 0) = false := bne_eq_false_iff_eq.mpr c20
        clear c20
        by_cases c21 : t283 = 0
        · rw [if_pos c21] at H
          have c21b0 : (t283 == 0) = true := beq_iff_eq.mpr c21
          have c21b1 : (t283 != 0) = false := bne_eq_false_iff_eq.mpr c21
          clear c21
          by_cases c22 : t273 = 737484
          · rw [if_pos c22] at H
            have c22b0 : (t273 == 737484) = true := beq_iff_eq.mpr c22
            have c22b1 : (t273 != 737484) = false := bne_eq_false_iff_eq.mpr c22
            clear c22
            by_cases c23 : t276 = 737515
            · rw [if_pos c23] at H
              have c23b0 : (t276 == 737515) = true := beq_iff_eq.mpr c23
              have c23b1 : (t276 != 737515) = false := bne_eq_false_iff_eq.mpr c23
              clear c23
              by_cases c24 : t279 = 737486
              · rw [if_pos c24] at H
                have c24b0 : (t279 == 737486) = true := beq_iff_eq.mpr c24
                have c24b1 : (t279 != 737486) = false := bne_eq_false_iff_eq.mpr c24
                clear c24
                by_cases c25 : t282 = 737483
                · rw [if_pos c25] at H
                  have c25b0 : (t282 == 737483) = true := beq_iff_eq.mpr c25
                  have c25b1 : (t282 != 737483) = false := bne_eq_false_iff_eq.mpr c25
                  clear c25
                  replace H := Option.bind_eq_some_iff.mp H
                  obtain ⟨t284, A260, H⟩ := H
                  replace H : (some (t273 == t284)) = some r := H
                  have A26 := Aside0.mk A260
                  clear A260
                  obtain rfl := Option.some.inj H
                  go_wp2_with (first | (go_at_call 37; (with_reducible refine (lombardlaw06_on.calls k 2020 2 29 t284 _ A26.out).mono ?_); rintro e w27 ⟨rfl, hb⟩; have n0_ := Aside0.mk (below_step (by repeat (first | (with_reducible first | exact HB.out | apply below_alloc | apply pw_below_drewN | apply below_drew1) | exact HB.out)) hb); clear HB; have HB := n0_; clear n0_; (try clear hb); (try clear hb2); (try clear hk); (try clear hi)))
                  go_ret
                  exact ⟨by first | rfl | (simp [errW_none, errW_some] <;> rfl) | (simp [*, errW_none, errW_some] <;> rfl), by repeat (first | (with_reducible first | exact HB.out | apply below_alloc | apply pw_below_drewN | apply below_drew1) | exact HB.out)⟩
                · rw [if_neg c25] at H
                  have c25b0 : (t282 == 737483) = false := beq_eq_false_iff_ne.mpr c25
                  have c25b1 : (t282 != 737483) = true := bne_iff_ne.mpr c25
                  obtain rfl := Option.some.inj H
                  go_wp2
                  go_ret
                  exact ⟨by first | rfl | (simp [errW_none, errW_some] <;> rfl) | (simp [*, errW_none, errW_some] <;> rfl), by repeat (first | (with_reducible first | exact HB.out | apply below_alloc | apply pw_below_drewN | apply below_drew1) | exact HB.out)⟩
              · rw [if_neg c24] at H
                have c24b0 : (t279 == 737486) = false := beq_eq_false_iff_ne.mpr c24
                have c24b1 : (t279 != 737486) = true := bne_iff_ne.mpr c24
                obtain rfl := Option.some.inj H
                go_wp2
                go_ret
                exact ⟨by first | rfl | (simp [errW_none, errW_some] <;> rfl) | (simp [*, errW_none, errW_some] <;> rfl), by repeat (first | (with_reducible first | exact HB.out | apply below_alloc | apply pw_below_drewN | apply below_drew1) | exact HB.out)⟩
            · rw [if_neg c23] at H
              have c23b0 : (t276 == 737515) = false := beq_eq_false_iff_ne.mpr c23
              have c23b1 : (t276 != 737515) = true := bne_iff_ne.mpr c23
              obtain rfl := Option.some.inj H
              go_wp2
              go_ret
              exact ⟨by first | rfl | (simp [errW_none, errW_some] <;> rfl) | (simp [*, errW_none, errW_some] <;> rfl), by repeat (first | (with_reducible first | exact HB.out | apply below_alloc | apply pw_below_drewN | apply below_drew1) | exact HB.out)⟩
          · rw [if_neg c22] at H
            have c22b0 : (t273 == 737484) = false := beq_eq_false_iff_ne.mpr c22
            have c22b1 : (t273 != 737484) = true := bne_iff_ne.mpr c22
            obtain rfl := Option.some.inj H
            go_wp2
            go_ret
            exact ⟨by first | rfl | (simp [errW_none, errW_some] <;> rfl) | (simp [*, errW_none, errW_some] <;> rfl), by repeat (first | (with_reducible first | exact HB.out | apply below_alloc | apply pw_below_drewN | apply below_drew1) | exact HB.out)⟩
        · rw [if_neg c21] at H
          have c21b0 : (t283 == 0) = false := beq_eq_false_iff_ne.mpr c21
          have c21b1 : (t283 != 0) = true := bne_iff_ne.mpr c21
          obtain rfl := Option.some.inj H
          go_wp2
          go_ret
          exact ⟨by first | rfl | (simp [errW_none, errW_some] <;> rfl) | (simp [*, errW_none, errW_some] <;> rfl), by repeat (first | (with_reducible first | exact HB.out | apply below_alloc | apply pw_below_drewN | apply below_drew1) | exact HB.out)⟩
      · rw [if_neg c20] at H
        have c20b0 : (t280 == 0) = false := beq_eq_false_iff_ne.mpr c20
        have c20b1 : (t280 != 0) = true := bne_iff_ne.mpr c20
        obtain rfl := Option.some.inj H
        go_wp2
        go_ret
        exact ⟨by first | rfl | (simp [errW_none, errW_some] <;> rfl) | (simp [*, errW_none, errW_some] <;> rfl), by repeat (first | (with_reducible first | exact HB.out | apply below_alloc | apply pw_below_drewN | apply below_drew1) | exact HB.out)⟩
    · rw [if_neg c19] at H
      have c19b0 : (t277 == 0) = false := beq_eq_false_iff_ne.mpr c19
      have c19b1 : (t277 != 0) = true := bne_iff_ne.mpr c19
      obtain rfl := Option.some.inj H
      go_wp2
      go_ret
      exact ⟨by first | rfl | (simp [errW_none, errW_some] <;> rfl) | (simp [*, errW_none, errW_some] <;> rfl), by repeat (first | (with_reducible first | exact HB.out | apply below_alloc | apply pw_below_drewN | apply below_drew1) | exact HB.out)⟩
  · rw [if_neg c18] at H
    have c18b0 : (t274 == 0) = false := beq_eq_false_iff_ne.mpr c18
    have c18b1 : (t274 != 0) = true := bne_iff_ne.mpr c18
    obtain rfl := Option.some.inj H
    go_wp2
    go_ret
    exact ⟨by first | rfl | (simp [errW_none, errW_some] <;> rfl) | (simp [*, errW_none, errW_some] <;> rfl), by repeat (first | (with_reducible first | exact HB.out | apply below_alloc | apply pw_below_drewN | apply below_drew1) | exact HB.out)⟩

end Go.Proofs.Ytdfaedikjfbbjaa.S
