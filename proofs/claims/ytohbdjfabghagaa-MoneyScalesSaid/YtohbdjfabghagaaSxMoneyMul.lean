/- Printed by a program of this session out of the translation: what each function called here computes, and that its call comes to just that. Conditions: none beyond those that each theorem names. -/
import Derived.Test.YtohbdjfabghagaaSx0
import Derived.Test.YtohbdjfabghagaaSxMathBitsMul64
import Derived.Test.YtohbdjfabghagaaSxMoneyTold
import Derived.Test.YtohbdjfabghagaaSxMoneySizeInt64
namespace Go.Proofs.Ytohbdjfabghagaa.S
open Go.RowKit Go.Proofs.YtohbdjfabghagaaW.PrintWords Go.Proofs.YtohbdjfabghagaaW.PrintLast Go.Proofs.YtohbdjfabghagaaW.PrintMore
attribute [local go_sem] max2_int min2_int max_two min_two max_three min_three max_four min_four   -- for this text's walks alone
attribute [local go_sem] Go.Proofs.Ytohbdjfabghagaa.XWalk.cell2
set_option linter.unusedVariables false
set_option linter.unusedSimpArgs false

/-! ### money_Mul: function 33 -/
def money_Mul.f (a0 : Int) (a1 : Int) : Option (Int × Int) := (money_size_int64.f a0).bind fun t341 => ((money_size_int64.f a1).bind fun t342 => ((math_bits_Mul64.f t341 t342).bind fun bt343 => (if (!((decide (a0 < 0)) == (decide (a1 < 0)))) = true then (if bt343.1 = 0 then ((money_told.f (wrap64 (IntKind.u64.wrap (-bt343.2))) (decide (bt343.2 ≤ 9223372036854775808))).bind fun bt345 => (some (bt345.1, bt345.2))) else ((money_told.f (wrap64 (IntKind.u64.wrap (-bt343.2))) false).bind fun bt347 => (some (bt347.1, bt347.2)))) else (if bt343.1 = 0 then ((money_told.f (wrap64 (bt343.2)) (decide (bt343.2 < 9223372036854775808))).bind fun bt349 => (some (bt349.1, bt349.2))) else ((money_told.f (wrap64 (bt343.2)) false).bind fun bt351 => (some (bt351.1, bt351.2)))))))
set_option maxHeartbeats 8000000 in
set_option maxRecDepth 100000 in
theorem money_Mul.calls (a0 : Int) (a1 : Int) (r1 : Int) (r2 : Int) (w : World) (h : money_Mul.f a0 a1 = some (r1, r2)) :
    Calls Try.prog 33 #[.int .i64 a0, .int .i64 a1] w fun e w' => e = .returned (.tuple #[.int .i64 r1, .int .i64 r2]) ∧ Drawn0 w w' := by
  have H : ((money_size_int64.f a0).bind fun t341 => ((money_size_int64.f a1).bind fun t342 => ((math_bits_Mul64.f t341 t342).bind fun bt343 => (if (!((decide (a0 < 0)) == (decide (a1 < 0)))) = true then (if bt343.1 = 0 then ((money_told.f (wrap64 (IntKind.u64.wrap (-bt343.2))) (decide (bt343.2 ≤ 9223372036854775808))).bind fun bt345 => (some (bt345.1, bt345.2))) else ((money_told.f (wrap64 (IntKind.u64.wrap (-bt343.2))) false).bind fun bt347 => (some (bt347.1, bt347.2)))) else (if bt343.1 = 0 then ((money_told.f (wrap64 (bt343.2)) (decide (bt343.2 < 9223372036854775808))).bind fun bt349 => (some (bt349.1, bt349.2))) else ((money_told.f (wrap64 (bt343.2)) false).bind fun bt351 => (some (bt351.1, bt351.2)))))))) = some (r1, r2) := h
  clear h
  replace H := Option.bind_eq_some_iff.mp H
  obtain ⟨t341, A30, H⟩ := H
  replace H : ((money_size_int64.f a1).bind fun t342 => ((math_bits_Mul64.f t341 t342).bind fun bt343 => (if (!((decide (a0 < 0)) == (decide (a1 < 0)))) = true then (if bt343.1 = 0 then ((money_told.f (wrap64 (IntKind.u64.wrap (-bt343.2))) (decide (bt343.2 ≤ 9223372036854775808))).bind fun bt345 => (some (bt345.1, bt345.2))) else ((money_told.f (wrap64 (IntKind.u64.wrap (-bt343.2))) false).bind fun bt347 => (some (bt347.1, bt347.2)))) else (if bt343.1 = 0 then ((money_told.f (wrap64 (bt343.2)) (decide (bt343.2 < 9223372036854775808))).bind fun bt349 => (some (bt349.1, bt349.2))) else ((money_told.f (wrap64 (bt343.2)) false).bind fun bt351 => (some (bt351.1, bt351.2))))))) = some (r1, r2) := H
  have A3 := Aside0.mk A30
  clear A30
  replace H := Option.bind_eq_some_iff.mp H
  obtain ⟨t342, A40, H⟩ := H
  replace H : ((math_bits_Mul64.f t341 t342).bind fun bt343 => (if (!((decide (a0 < 0)) == (decide (a1 < 0)))) = true then (if bt343.1 = 0 then ((money_told.f (wrap64 (IntKind.u64.wrap (-bt343.2))) (decide (bt343.2 ≤ 9223372036854775808))).bind fun bt345 => (some (bt345.1, bt345.2))) else ((money_told.f (wrap64 (IntKind.u64.wrap (-bt343.2))) false).bind fun bt347 => (some (bt347.1, bt347.2)))) else (if bt343.1 = 0 then ((money_told.f (wrap64 (bt343.2)) (decide (bt343.2 < 9223372036854775808))).bind fun bt349 => (some (bt349.1, bt349.2))) else ((money_told.f (wrap64 (bt343.2)) false).bind fun bt351 => (some (bt351.1, bt351.2)))))) = some (r1, r2) := H
  have A4 := Aside0.mk A40
  clear A40
  replace H := Option.bind_eq_some_iff.mp H
  obtain ⟨⟨t343, t344⟩, A50, H⟩ := H
  replace H : (if (!((decide (a0 < 0)) == (decide (a1 < 0)))) = true then (if t343 = 0 then ((money_told.f (wrap64 (IntKind.u64.wrap (-t344))) (decide (t344 ≤ 9223372036854775808))).bind fun bt345 => (some (bt345.1, bt345.2))) else ((money_told.f (wrap64 (IntKind.u64.wrap (-t344))) false).bind fun bt347 => (some (bt347.1, bt347.2)))) else (if t343 = 0 then ((money_told.f (wrap64 (t344)) (decide (t344 < 9223372036854775808))).bind fun bt349 => (some (bt349.1, bt349.2))) else ((money_told.f (wrap64 (t344)) false).bind fun bt351 => (some (bt351.1, bt351.2))))) = some (r1, r2) := H
  have A5 := Aside0.mk A50
  clear A50
  by_cases c6 : (!((decide (a0 < 0)) == (decide (a1 < 0)))) = true
  · rw [if_pos c6] at H
    have c6b0 : (!((decide (a0 < 0)) == (decide (a1 < 0)))) = true := c6
    clear c6
    have HC7 := Aside0.mk H
    clear H
    go_enter Try.func33, Try.ntmps33
    go_upto_region 3 with (first | ((with_reducible refine gate_callee (f := 56) rfl ?_); refine goesL_ (some 10) rfl rfl Try.func56 (by kernel_rfl) rfl #[.int .i64 a0] rfl (by (try simp only [List.map_toArray, List.map_cons, List.map_nil]); first | done | rfl | (simp only [List.length_drop, List.length_take]; rfl)) ?_; (with_reducible refine (money_size_int64.calls a0 t341 _ A3.out).mono ?_); rintro e w' ⟨rfl, ⟨nd, rfl⟩⟩; refine ⟨_, rfl, ?_⟩) | ((with_reducible refine gate_callee (f := 56) rfl ?_); refine goesL_ (some 12) rfl rfl Try.func56 (by kernel_rfl) rfl #[.int .i64 a1] rfl (by (try simp only [List.map_toArray, List.map_cons, List.map_nil]); first | done | rfl | (simp only [List.length_drop, List.length_take]; rfl)) ?_; (with_reducible refine (money_size_int64.calls a1 t342 _ A4.out).mono ?_); rintro e w' ⟨rfl, ⟨nd, rfl⟩⟩; refine ⟨_, rfl, ?_⟩) | ((with_reducible refine gate_callee (f := 55) rfl ?_); refine goesL_ (some 13) rfl rfl Try.func55 (by kernel_rfl) rfl #[.int .u64 t341, .int .u64 t342] rfl (by (try simp only [List.map_toArray, List.map_cons, List.map_nil]); first | done | rfl | (simp only [List.length_drop, List.length_take]; rfl)) ?_; (with_reducible refine (math_bits_Mul64.calls t341 t342 t343 t344 _ A5.out).mono ?_); rintro e w' ⟨rfl, ⟨nd, rfl⟩⟩; refine ⟨_, rfl, ?_⟩))
    have H := HC7.out
    clear HC7
    by_cases c8 : t343 = 0
    · rw [if_pos c8] at H
      have c8b0 : (t343 == 0) = true := beq_iff_eq.mpr c8
      have c8b1 : (t343 != 0) = false := bne_eq_false_iff_eq.mpr c8
      clear c8
      replace H := Option.bind_eq_some_iff.mp H
      obtain ⟨⟨t345, t346⟩, A90, H⟩ := H
      replace H : (some (t345, t346)) = some (r1, r2) := H
      have A9 := Aside0.mk A90
      clear A90
      simp only [Option.some.injEq, Prod.mk.injEq] at H
      obtain ⟨rfl, rfl⟩ := H
      go_wp2_with (first | ((with_reducible refine gate_callee (f := 54) rfl ?_); refine goesL_ (some 30) rfl rfl Try.func54 (by kernel_rfl) rfl #[.int .i64 (wrap64 (IntKind.u64.wrap (-t344))), .bool (decide (t344 ≤ 9223372036854775808))] rfl (by (try simp only [List.map_toArray, List.map_cons, List.map_nil]); first | done | rfl | (simp only [List.length_drop, List.length_take]; rfl)) ?_; (with_reducible refine (money_told.calls (wrap64 (IntKind.u64.wrap (-t344))) (decide (t344 ≤ 9223372036854775808)) t345 t346 _ A9.out).mono ?_); rintro e w' ⟨rfl, ⟨nd, rfl⟩⟩; refine ⟨_, rfl, ?_⟩))
      go_ret2
      exact ⟨by first | rfl | (simp; done) | (simp [*]; done), by repeat (first | exact Drawn0.refl _ | apply Drawn0.step)⟩
    · rw [if_neg c8] at H
      have c8b0 : (t343 == 0) = false := beq_eq_false_iff_ne.mpr c8
      have c8b1 : (t343 != 0) = true := bne_iff_ne.mpr c8
      replace H := Option.bind_eq_some_iff.mp H
      obtain ⟨⟨t347, t348⟩, A100, H⟩ := H
      replace H : (some (t347, t348)) = some (r1, r2) := H
      have A10 := Aside0.mk A100
      clear A100
      simp only [Option.some.injEq, Prod.mk.injEq] at H
      obtain ⟨rfl, rfl⟩ := H
      go_wp2_with (first | ((with_reducible refine gate_callee (f := 54) rfl ?_); refine goesL_ (some 30) rfl rfl Try.func54 (by kernel_rfl) rfl #[.int .i64 (wrap64 (IntKind.u64.wrap (-t344))), .bool false] rfl (by (try simp only [List.map_toArray, List.map_cons, List.map_nil]); first | done | rfl | (simp only [List.length_drop, List.length_take]; rfl)) ?_; (with_reducible refine (money_told.calls (wrap64 (IntKind.u64.wrap (-t344))) false t347 t348 _ A10.out).mono ?_); rintro e w' ⟨rfl, ⟨nd, rfl⟩⟩; refine ⟨_, rfl, ?_⟩))
      go_ret2
      exact ⟨by first | rfl | (simp; done) | (simp [*]; done), by repeat (first | exact Drawn0.refl _ | apply Drawn0.step)⟩
  · rw [if_neg c6] at H
    have c6b0 : (!((decide (a0 < 0)) == (decide (a1 < 0)))) = false := by simpa using c6
    clear c6
    have HC11 := Aside0.mk H
    clear H
    go_enter Try.func33, Try.ntmps33
    go_upto_region 4 with (first | ((with_reducible refine gate_callee (f := 56) rfl ?_); refine goesL_ (some 10) rfl rfl Try.func56 (by kernel_rfl) rfl #[.int .i64 a0] rfl (by (try simp only [List.map_toArray, List.map_cons, List.map_nil]); first | done | rfl | (simp only [List.length_drop, List.length_take]; rfl)) ?_; (with_reducible refine (money_size_int64.calls a0 t341 _ A3.out).mono ?_); rintro e w' ⟨rfl, ⟨nd, rfl⟩⟩; refine ⟨_, rfl, ?_⟩) | ((with_reducible refine gate_callee (f := 56) rfl ?_); refine goesL_ (some 12) rfl rfl Try.func56 (by kernel_rfl) rfl #[.int .i64 a1] rfl (by (try simp only [List.map_toArray, List.map_cons, List.map_nil]); first | done | rfl | (simp only [List.length_drop, List.length_take]; rfl)) ?_; (with_reducible refine (money_size_int64.calls a1 t342 _ A4.out).mono ?_); rintro e w' ⟨rfl, ⟨nd, rfl⟩⟩; refine ⟨_, rfl, ?_⟩) | ((with_reducible refine gate_callee (f := 55) rfl ?_); refine goesL_ (some 13) rfl rfl Try.func55 (by kernel_rfl) rfl #[.int .u64 t341, .int .u64 t342] rfl (by (try simp only [List.map_toArray, List.map_cons, List.map_nil]); first | done | rfl | (simp only [List.length_drop, List.length_take]; rfl)) ?_; (with_reducible refine (math_bits_Mul64.calls t341 t342 t343 t344 _ A5.out).mono ?_); rintro e w' ⟨rfl, ⟨nd, rfl⟩⟩; refine ⟨_, rfl, ?_⟩))
    have H := HC11.out
    clear HC11
    by_cases c12 : t343 = 0
    · rw [if_pos c12] at H
      have c12b0 : (t343 == 0) = true := beq_iff_eq.mpr c12
      have c12b1 : (t343 != 0) = false := bne_eq_false_iff_eq.mpr c12
      clear c12
      replace H := Option.bind_eq_some_iff.mp H
      obtain ⟨⟨t349, t350⟩, A130, H⟩ := H
      replace H : (some (t349, t350)) = some (r1, r2) := H
      have A13 := Aside0.mk A130
      clear A130
      simp only [Option.some.injEq, Prod.mk.injEq] at H
      obtain ⟨rfl, rfl⟩ := H
      go_wp2_with (first | ((with_reducible refine gate_callee (f := 54) rfl ?_); refine goesL_ (some 41) rfl rfl Try.func54 (by kernel_rfl) rfl #[.int .i64 (wrap64 (t344)), .bool (decide (t344 < 9223372036854775808))] rfl (by (try simp only [List.map_toArray, List.map_cons, List.map_nil]); first | done | rfl | (simp only [List.length_drop, List.length_take]; rfl)) ?_; (with_reducible refine (money_told.calls (wrap64 (t344)) (decide (t344 < 9223372036854775808)) t349 t350 _ A13.out).mono ?_); rintro e w' ⟨rfl, ⟨nd, rfl⟩⟩; refine ⟨_, rfl, ?_⟩))
      go_ret2
      exact ⟨by first | rfl | (simp; done) | (simp [*]; done), by repeat (first | exact Drawn0.refl _ | apply Drawn0.step)⟩
    · rw [if_neg c12] at H
      have c12b0 : (t343 == 0) = false := beq_eq_false_iff_ne.mpr c12
      have c12b1 : (t343 != 0) = true := bne_iff_ne.mpr c12
      replace H := Option.bind_eq_some_iff.mp H
      obtain ⟨⟨t351, t352⟩, A140, H⟩ := H
      replace H : (some (t351, t352)) = some (r1, r2) := H
      have A14 := Aside0.mk A140
      clear A140
      simp only [Option.some.injEq, Prod.mk.injEq] at H
      obtain ⟨rfl, rfl⟩ := H
      go_wp2_with (first | ((with_reducible refine gate_callee (f := 54) rfl ?_); refine goesL_ (some 41) rfl rfl Try.func54 (by kernel_rfl) rfl #[.int .i64 (wrap64 (t344)), .bool false] rfl (by (try simp only [List.map_toArray, List.map_cons, List.map_nil]); first | done | rfl | (simp only [List.length_drop, List.length_take]; rfl)) ?_; (with_reducible refine (money_told.calls (wrap64 (t344)) false t351 t352 _ A14.out).mono ?_); rintro e w' ⟨rfl, ⟨nd, rfl⟩⟩; refine ⟨_, rfl, ?_⟩))
      go_ret2
      exact ⟨by first | rfl | (simp; done) | (simp [*]; done), by repeat (first | exact Drawn0.refl _ | apply Drawn0.step)⟩

end Go.Proofs.Ytohbdjfabghagaa.S
