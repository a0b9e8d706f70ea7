/- Printed by a program of this session out of the translation: what each function called here computes, and that its call comes to just that. Conditions: none beyond those that each theorem names. -/
import Derived.Test.YtohbdjfabghagaaSx0
import Derived.Test.YtohbdjfabghagaaSxMathBitsMul64
import Derived.Test.YtohbdjfabghagaaSxMoneyTold
import Derived.Test.YtohbdjfabghagaaSxMoneySizeInt64
namespace Go.Proofs.Ytohbdjfabghagaa.S
open Go.RowKit Go.Proofs.YtohbdjfabghagaaW.PrintWords Go.Proofs.YtohbdjfabghagaaW.PrintLast Go.Proofs.YtohbdjfabghagaaW.PrintMore
attribute [local go_sem] max2_int min2_int max_two min_two max_three min_three max_four min_four   -- for this text's walks alone
attribute [local go_sem] Go.Proofs.Ytohbdjfabghagaa.XWalk.cell2
set_option linter.unusedVariables false
set_option linter.unusedSimpArgs false

/-! ### money_Mul: function 33 -/
def money_Mul.f (a0 : Int) (a1 : Int) : Option (Int × Int) := (money_size_int64.f a0).bind fun t336 => ((money_size_int64.f a1).bind fun t337 => ((math_bits_Mul64.f t336 t337).bind fun bt338 => (if (!((decide (a0 < 0)) == (decide (a1 < 0)))) = true then (if bt338.1 = 0 then ((money_told.f (wrap64 (IntKind.u64.wrap (-bt338.2))) (decide (bt338.2 ≤ 9223372036854775808))).bind fun bt340 => (some (bt340.1, bt340.2))) else ((money_told.f (wrap64 (IntKind.u64.wrap (-bt338.2))) false).bind fun bt342 => (some (bt342.1, bt342.2)))) else (if bt338.1 = 0 then ((money_told.f (wrap64 (bt338.2)) (decide (bt338.2 < 9223372036854775808))).bind fun bt344 => (some (bt344.1, bt344.2))) else ((money_told.f (wrap64 (bt338.2)) false).bind fun bt346 => (some (bt346.1, bt346.2)))))))
set_option maxHeartbeats 8000000 in
set_option maxRecDepth 100000 in
theorem money_Mul.calls (a0 : Int) (a1 : Int) (r1 : Int) (r2 : Int) (w : World) (h : money_Mul.f a0 a1 = some (r1, r2)) :
    Calls Try.prog 33 #[.int .i64 a0, .int .i64 a1] w fun e w' => e = .returned (.tuple #[.int .i64 r1, .int .i64 r2]) ∧ Drawn0 w w' := by
  have H : ((money_size_int64.f a0).bind fun t336 => ((money_size_int64.f a1).bind fun t337 => ((math_bits_Mul64.f t336 t337).bind fun bt338 => (if (!((decide (a0 < 0)) == (decide (a1 < 0)))) = true then (if bt338.1 = 0 then ((money_told.f (wrap64 (IntKind.u64.wrap (-bt338.2))) (decide (bt338.2 ≤ 9223372036854775808))).bind fun bt340 => (some (bt340.1, bt340.2))) else ((money_told.f (wrap64 (IntKind.u64.wrap (-bt338.2))) false).bind fun bt342 => (some (bt342.1, bt342.2)))) else (if bt338.1 = 0 then ((money_told.f (wrap64 (bt338.2)) (decide (bt338.2 < 9223372036854775808))).bind fun bt344 => (some (bt344.1, bt344.2))) else ((money_told.f (wrap64 (bt338.2)) false).bind fun bt346 => (some (bt346.1, bt346.2)))))))) = some (r1, r2) := h
  clear h
  replace H := Option.bind_eq_some_iff.mp H
  obtain ⟨t336, A30, H⟩ := H
  replace H : ((money_size_int64.f a1).bind fun t337 => ((math_bits_Mul64.f t336 t337).bind fun bt338 => (if (!((decide (a0 < 0)) == (decide (a1 < 0)))) = true then (if bt338.1 = 0 then ((money_told.f (wrap64 (IntKind.u64.wrap (-bt338.2))) (decide (bt338.2 ≤ 9223372036854775808))).bind fun bt340 => (some (bt340.1, bt340.2))) else ((money_told.f (wrap64 (IntKind.u64.wrap (-bt338.2))) false).bind fun bt342 => (some (bt342.1, bt342.2)))) else (if bt338.1 = 0 then ((money_told.f (wrap64 (bt338.2)) (decide (bt338.2 < 9223372036854775808))).bind fun bt344 => (some (bt344.1, bt344.2))) else ((money_told.f (wrap64 (bt338.2)) false).bind fun bt346 => (some (bt346.1, bt346.2))))))) = some (r1, r2) := H
  have A3 := Aside0.mk A30
  clear A30
  replace H := Option.bind_eq_some_iff.mp H
  obtain ⟨t337, A40, H⟩ := H
  replace H : ((math_bits_Mul64.f t336 t337).bind fun bt338 => (if (!((decide (a0 < 0)) == (decide (a1 < 0)))) = true then (if bt338.1 = 0 then ((money_told.f (wrap64 (IntKind.u64.wrap (-bt338.2))) (decide (bt338.2 ≤ 9223372036854775808))).bind fun bt340 => (some (bt340.1, bt340.2))) else ((money_told.f (wrap64 (IntKind.u64.wrap (-bt338.2))) false).bind fun bt342 => (some (bt342.1, bt342.2)))) else (if bt338.1 = 0 then ((money_told.f (wrap64 (bt338.2)) (decide (bt338.2 < 9223372036854775808))).bind fun bt344 => (some (bt344.1, bt344.2))) else ((money_told.f (wrap64 (bt338.2)) false).bind fun bt346 => (some (bt346.1, bt346.2)))))) = some (r1, r2) := H
  have A4 := Aside0.mk A40
  clear A40
  replace H := Option.bind_eq_some_iff.mp H
  obtain ⟨⟨t338, t339⟩, A50, H⟩ := H
  replace H : (if (!((decide (a0 < 0)) == (decide (a1 < 0)))) = true then (if t338 = 0 then ((money_told.f (wrap64 (IntKind.u64.wrap (-t339))) (decide (t339 ≤ 9223372036854775808))).bind fun bt340 => (some (bt340.1, bt340.2))) else ((money_told.f (wrap64 (IntKind.u64.wrap (-t339))) false).bind fun bt342 => (some (bt342.1, bt342.2)))) else (if t338 = 0 then ((money_told.f (wrap64 (t339)) (decide (t339 < 9223372036854775808))).bind fun bt344 => (some (bt344.1, bt344.2))) else ((money_told.f (wrap64 (t339)) false).bind fun bt346 => (some (bt346.1, bt346.2))))) = some (r1, r2) := H
  have A5 := Aside0.mk A50
  clear A50
  by_cases c6 : (!((decide (a0 < 0)) == (decide (a1 < 0)))) = true
  · rw [if_pos c6] at H
    have c6b0 : (!((decide (a0 < 0)) == (decide (a1 < 0)))) = true := c6
    clear c6
    have HC7 := Aside0.mk H
    clear H
    go_enter Try.func33, Try.ntmps33
    go_upto_region 3 with (first | ((with_reducible refine gate_callee (f := 56) rfl ?_); refine goesL_ (some 10) rfl rfl Try.func56 (by kernel_rfl) rfl #[.int .i64 a0] rfl (by (try simp only [List.map_toArray, List.map_cons, List.map_nil]); first | done | rfl | (simp only [List.length_drop, List.length_take]; rfl)) ?_; (with_reducible refine (money_size_int64.calls a0 t336 _ A3.out).mono ?_); rintro e w' ⟨rfl, ⟨nd, rfl⟩⟩; refine ⟨_, rfl, ?_⟩) | ((with_reducible refine gate_callee (f := 56) rfl ?_); refine goesL_ (some 12) rfl rfl Try.func56 (by kernel_rfl) rfl #[.int .i64 a1] rfl (by (try simp only [List.map_toArray, List.map_cons, List.map_nil]); first | done | rfl | (simp only [List.length_drop, List.length_take]; rfl)) ?_; (with_reducible refine (money_size_int64.calls a1 t337 _ A4.out).mono ?_); rintro e w' ⟨rfl, ⟨nd, rfl⟩⟩; refine ⟨_, rfl, ?_⟩) | ((with_reducible refine gate_callee (f := 55) rfl ?_); refine goesL_ (some 13) rfl rfl Try.func55 (by kernel_rfl) rfl #[.int .u64 t336, .int .u64 t337] rfl (by (try simp only [List.map_toArray, List.map_cons, List.map_nil]); first | done | rfl | (simp only [List.length_drop, List.length_take]; rfl)) ?_; (with_reducible refine (math_bits_Mul64.calls t336 t337 t338 t339 _ A5.out).mono ?_); rintro e w' ⟨rfl, ⟨nd, rfl⟩⟩; refine ⟨_, rfl, ?_⟩))
    have H := HC7.out
    clear HC7
    by_cases c8 : t338 = 0
    · rw [if_pos c8] at H
      have c8b0 : (t338 == 0) = true := beq_iff_eq.mpr c8
      have c8b1 : (t338 != 0) = false := bne_eq_false_iff_eq.mpr c8
      clear c8
      replace H := Option.bind_eq_some_iff.mp H
      obtain ⟨⟨t340, t341⟩, A90, H⟩ := H
      replace H : (some (t340, t341)) = some (r1, r2) := H
      have A9 := Aside0.mk A90
      clear A90
      simp only [Option.some.injEq, Prod.mk.injEq] at H
      obtain ⟨rfl, rfl⟩ := H
      go_wp2_with (first | ((with_reducible refine gate_callee (f := 54) rfl ?_); refine goesL_ (some 30) rfl rfl Try.func54 (by kernel_rfl) rfl #[.int .i64 (wrap64 (IntKind.u64.wrap (-t339))), .bool (decide (t339 ≤ 9223372036854775808))] rfl (by (try simp only [List.map_toArray, List.map_cons, List.map_nil]); first | done | rfl | (simp only [List.length_drop, List.length_take]; rfl)) ?_; (with_reducible refine (money_told.calls (wrap64 (IntKind.u64.wrap (-t339))) (decide (t339 ≤ 9223372036854775808)) t340 t341 _ A9.out).mono ?_); rintro e w' ⟨rfl, ⟨nd, rfl⟩⟩; refine ⟨_, rfl, ?_⟩))
      go_ret2
      exact ⟨by first | rfl | (simp; done) | (simp [*]; done), by repeat (first | exact Drawn0.refl _ | apply Drawn0.step)⟩
    · rw [if_neg c8] at H
      have c8b0 : (t338 == 0) = false := beq_eq_false_iff_ne.mpr c8
      have c8b1 : (t338 != 0) = true := bne_iff_ne.mpr c8
      replace H := Option.bind_eq_some_iff.mp H
      obtain ⟨⟨t342, t343⟩, A100, H⟩ := H
      replace H : (some (t342, t343)) = some (r1, r2) := H
      have A10 := Aside0.mk A100
      clear A100
      simp only [Option.some.injEq, Prod.mk.injEq] at H
      obtain ⟨rfl, rfl⟩ := H
      go_wp2_with (first | ((with_reducible refine gate_callee (f := 54) rfl ?_); refine goesL_ (some 30) rfl rfl Try.func54 (by kernel_rfl) rfl #[.int .i64 (wrap64 (IntKind.u64.wrap (-t339))), .bool false] rfl (by (try simp only [List.map_toArray, List.map_cons, List.map_nil]); first | done | rfl | (simp only [List.length_drop, List.length_take]; rfl)) ?_; (with_reducible refine (money_told.calls (wrap64 (IntKind.u64.wrap (-t339))) false t342 t343 _ A10.out).mono ?_); rintro e w' ⟨rfl, ⟨nd, rfl⟩⟩; refine ⟨_, rfl, ?_⟩))
      go_ret2
      exact ⟨by first | rfl | (simp; done) | (simp [*]; done), by repeat (first | exact Drawn0.refl _ | apply Drawn0.step)⟩
  · rw [if_neg c6] at H
    have c6b0 : (!((decide (a0 < 0)) == (decide (a1 < 0)))) = false := by simpa using c6
    clear c6
    have HC11 := Aside0.mk H
    clear H
    go_enter Try.func33, Try.ntmps33
    go_upto_region 4 with (first | ((with_reducible refine gate_callee (f := 56) rfl ?_); refine goesL_ (some 10) rfl rfl Try.func56 (by kernel_rfl) rfl #[.int .i64 a0] rfl (by (try simp only [List.map_toArray, List.map_cons, List.map_nil]); first | done | rfl | (simp only [List.length_drop, List.length_take]; rfl)) ?_; (with_reducible refine (money_size_int64.calls a0 t336 _ A3.out).mono ?_); rintro e w' ⟨rfl, ⟨nd, rfl⟩⟩; refine ⟨_, rfl, ?_⟩) | ((with_reducible refine gate_callee (f := 56) rfl ?_); refine goesL_ (some 12) rfl rfl Try.func56 (by kernel_rfl) rfl #[.int .i64 a1] rfl (by (try simp only [List.map_toArray, List.map_cons, List.map_nil]); first | done | rfl | (simp only [List.length_drop, List.length_take]; rfl)) ?_; (with_reducible refine (money_size_int64.calls a1 t337 _ A4.out).mono ?_); rintro e w' ⟨rfl, ⟨nd, rfl⟩⟩; refine ⟨_, rfl, ?_⟩) | ((with_reducible refine gate_callee (f := 55) rfl ?_); refine goesL_ (some 13) rfl rfl Try.func55 (by kernel_rfl) rfl #[.int .u64 t336, .int .u64 t337] rfl (by (try simp only [List.map_toArray, List.map_cons, List.map_nil]); first | done | rfl | (simp only [List.length_drop, List.length_take]; rfl)) ?_; (with_reducible refine (math_bits_Mul64.calls t336 t337 t338 t339 _ A5.out).mono ?_); rintro e w' ⟨rfl, ⟨nd, rfl⟩⟩; refine ⟨_, rfl, ?_⟩))
    have H := HC11.out
    clear HC11
    by_cases c12 : t338 = 0
    · rw [if_pos c12] at H
      have c12b0 : (t338 == 0) = true := beq_iff_eq.mpr c12
      have c12b1 : (t338 != 0) = false := bne_eq_false_iff_eq.mpr c12
      clear c12
      replace H := Option.bind_eq_some_iff.mp H
      obtain ⟨⟨t344, t345⟩, A130, H⟩ := H
      replace H : (some (t344, t345)) = some (r1, r2) := H
      have A13 := Aside0.mk A130
      clear A130
      simp only [Option.some.injEq, Prod.mk.injEq] at H
      obtain ⟨rfl, rfl⟩ := H
      go_wp2_with (first | ((with_reducible refine gate_callee (f := 54) rfl ?_); refine goesL_ (some 41) rfl rfl Try.func54 (by kernel_rfl) rfl #[.int .i64 (wrap64 (t339)), .bool (decide (t339 < 9223372036854775808))] rfl (by (try simp only [List.map_toArray, List.map_cons, List.map_nil]); first | done | rfl | (simp only [List.length_drop, List.length_take]; rfl)) ?_; (with_reducible refine (money_told.calls (wrap64 (t339)) (decide (t339 < 9223372036854775808)) t344 t345 _ A13.out).mono ?_); rintro e w' ⟨rfl, ⟨nd, rfl⟩⟩; refine ⟨_, rfl, ?_⟩))
      go_ret2
      exact ⟨by first | rfl | (simp; done) | (simp [*]; done), by repeat (first | exact Drawn0.refl _ | apply Drawn0.step)⟩
    · rw [if_neg c12] at H
      have c12b0 : (t338 == 0) = false := beq_eq_false_iff_ne.mpr c12
      have c12b1 : (t338 != 0) = true := bne_iff_ne.mpr c12
      replace H := Option.bind_eq_some_iff.mp H
      obtain ⟨⟨t346, t347⟩, A140, H⟩ := H
      replace H : (some (t346, t347)) = some (r1, r2) := H
      have A14 := Aside0.mk A140
      clear A140
      simp only [Option.some.injEq, Prod.mk.injEq] at H
      obtain ⟨rfl, rfl⟩ := H
      go_wp2_with (first | ((with_reducible refine gate_callee (f := 54) rfl ?_); refine goesL_ (some 41) rfl rfl Try.func54 (by kernel_rfl) rfl #[.int .i64 (wrap64 (t339)), .bool false] rfl (by (try simp only [List.map_toArray, List.map_cons, List.map_nil]); first | done | rfl | (simp only [List.length_drop, List.length_take]; rfl)) ?_; (with_reducible refine (money_told.calls (wrap64 (t339)) false t346 t347 _ A14.out).mono ?_); rintro e w' ⟨rfl, ⟨nd, rfl⟩⟩; refine ⟨_, rfl, ?_⟩))
      go_ret2
      exact ⟨by first | rfl | (simp; done) | (simp [*]; done), by repeat (first | exact Drawn0.refl _ | apply Drawn0.step)⟩

end Go.Proofs.Ytohbdjfabghagaa.S
