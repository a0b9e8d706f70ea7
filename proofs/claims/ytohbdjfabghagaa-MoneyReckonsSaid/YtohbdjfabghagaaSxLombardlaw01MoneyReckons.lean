/- Printed by a program of this session out of the translation: what each function called here computes, and that its call comes to just that. Conditions: none beyond those that each theorem names. -/
import Derived.Test.YtohbdjfabghagaaSx0
import Derived.Test.YtohbdjfabghagaaSxMoneyMay
import Derived.Test.YtohbdjfabghagaaSxMoneyAdd
import Derived.Test.YtohbdjfabghagaaSxLombardlaw01Alive
import Derived.Test.YtohbdjfabghagaaSxLombardref01Add
import Derived.Test.YtohbdjfabghagaaSxLombardref01May
import Derived.Test.YtohbdjfabghagaaSxMoneySub
import Derived.Test.YtohbdjfabghagaaSxLombardref01Sub
import Derived.Test.YtohbdjfabghagaaSxMoneyMul
import Derived.Test.YtohbdjfabghagaaSxLombardref01Neg
import Derived.Test.YtohbdjfabghagaaSxLombardref01Mul
import Derived.Test.YtohbdjfabghagaaSxMoneyNeg
namespace Go.Proofs.Ytohbdjfabghagaa.S
open Go.RowKit Go.Proofs.YtohbdjfabghagaaW.PrintWords Go.Proofs.YtohbdjfabghagaaW.PrintLast Go.Proofs.YtohbdjfabghagaaW.PrintMore
attribute [local go_sem] max2_int min2_int max_two min_two max_three min_three max_four min_four   -- for this text's walks alone
attribute [local go_sem] Go.Proofs.Ytohbdjfabghagaa.XWalk.cell2
set_option linter.unusedVariables false
set_option linter.unusedSimpArgs false

/-! ### lombardlaw01_MoneyReckons: function 10 -/
def lombardlaw01_MoneyReckons.f (k : Nat) (a0 : Int) (a1 : Int) : Option (Bool) := (lombardlaw01_alive.f k).bind fun t356 => (if t356 = true then ((money_Add.f a0 a1).bind fun bt357 => ((lombardref01_Add.f a0 a1).bind fun bt359 => ((money_Sub.f a0 a1).bind fun bt361 => ((lombardref01_Sub.f a0 a1).bind fun bt363 => ((money_Mul.f a0 a1).bind fun bt365 => ((lombardref01_Mul.f k a0 a1).bind fun bt367 => ((money_Neg.f a0).bind fun bt369 => ((lombardref01_Neg.f a0).bind fun bt371 => (if bt357.1 = bt359.1 then (if bt357.2 = bt359.2 then (if bt361.1 = bt363.1 then (if bt361.2 = bt363.2 then (if bt365.1 = bt367.1 then (if bt365.2 = bt367.2 then (if bt369.1 = bt371.1 then (if bt369.2 = bt371.2 then ((money_May.f a0).bind fun t373 => ((lombardref01_May.f a0).bind fun t374 => (some (t373 == t374)))) else (some false)) else (some false)) else (some false)) else (some false)) else (some false)) else (some false)) else (some false)) else (some false)))))))))) else (some false))
theorem lombardlaw01_MoneyReckons.mono : ∀ a0 a1 k, LeO (lombardlaw01_MoneyReckons.f k a0 a1) (lombardlaw01_MoneyReckons.f (k + 1) a0 a1) := by
  intro a0 a1 k
  unfold lombardlaw01_MoneyReckons.f
  repeat' first
      | (with_reducible exact lombardlaw01_alive.mono _)
      | (with_reducible exact lombardref01_Mul.mono _ _ _)
      | (with_reducible exact LeO.refl _)
      | (with_reducible exact LeO.none _)
      | (with_reducible refine LeO.ite ?_ ?_)
      | (with_reducible refine LeO.bind ?_ (fun _ => ?_))
      | exact lombardlaw01_alive.mono _
      | exact lombardref01_Mul.mono _ _ _
      | exact LeO.none _
      | refine LeO.ite ?_ ?_
      | refine LeO.bind ?_ (fun _ => ?_)
set_option maxHeartbeats 8000000 in
set_option maxRecDepth 100000 in
theorem lombardlaw01_MoneyReckons.calls (k : Nat) (a0 : Int) (a1 : Int) (r : Bool) (w : World) (h : lombardlaw01_MoneyReckons.f k a0 a1 = some r) :
    Calls Try.prog 10 #[.int .i64 a0, .int .i64 a1] w fun e w' => e = .returned (.bool r) ∧ Below w.heap.size w w' := by
  have HB := Aside0.mk (Below.refl w.heap.size w)
  have H : ((lombardlaw01_alive.f k).bind fun t356 => (if t356 = true then ((money_Add.f a0 a1).bind fun bt357 => ((lombardref01_Add.f a0 a1).bind fun bt359 => ((money_Sub.f a0 a1).bind fun bt361 => ((lombardref01_Sub.f a0 a1).bind fun bt363 => ((money_Mul.f a0 a1).bind fun bt365 => ((lombardref01_Mul.f k a0 a1).bind fun bt367 => ((money_Neg.f a0).bind fun bt369 => ((lombardref01_Neg.f a0).bind fun bt371 => (if bt357.1 = bt359.1 then (if bt357.2 = bt359.2 then (if bt361.1 = bt363.1 then (if bt361.2 = bt363.2 then (if bt365.1 = bt367.1 then (if bt365.2 = bt367.2 then (if bt369.1 = bt371.1 then (if bt369.2 = bt371.2 then ((money_May.f a0).bind fun t373 => ((lombardref01_May.f a0).bind fun t374 => (some (t373 == t374)))) else (some false)) else (some false)) else (some false)) else (some false)) else (some false)) else (some false)) else (some false)) else (some false)))))))))) else (some false))) = some r := h
  clear h
  replace H := Option.bind_eq_some_iff.mp H
  obtain ⟨t356, A30, H⟩ := H
  replace H : (if t356 = true then ((money_Add.f a0 a1).bind fun bt357 => ((lombardref01_Add.f a0 a1).bind fun bt359 => ((money_Sub.f a0 a1).bind fun bt361 => ((lombardref01_Sub.f a0 a1).bind fun bt363 => ((money_Mul.f a0 a1).bind fun bt365 => ((lombardref01_Mul.f k a0 a1).bind fun bt367 => ((money_Neg.f a0).bind fun bt369 => ((lombardref01_Neg.f a0).bind fun bt371 => (if bt357.1 = bt359.1 then (if bt357.2 = bt359.2 then (if bt361.1 = bt363.1 then (if bt361.2 = bt363.2 then (if bt365.1 = bt367.1 then (if bt365.2 = bt367.2 then (if bt369.1 = bt371.1 then (if bt369.2 = bt371.2 then ((money_May.f a0).bind fun t373 => ((lombardref01_May.f a0).bind fun t374 => (some (t373 == t374)))) else (some false)) else (some false)) else (some false)) else (some false)) else (some false)) else (some false)) else (some false)) else (some false)))))))))) else (some false)) = some r := H
  have A3 := Aside0.mk A30
  clear A30
  by_cases c4 : t356 = true
  · subst c4
    have H1 : ((money_Add.f a0 a1).bind fun bt357 => ((lombardref01_Add.f a0 a1).bind fun bt359 => ((money_Sub.f a0 a1).bind fun bt361 => ((lombardref01_Sub.f a0 a1).bind fun bt363 => ((money_Mul.f a0 a1).bind fun bt365 => ((lombardref01_Mul.f k a0 a1).bind fun bt367 => ((money_Neg.f a0).bind fun bt369 => ((lombardref01_Neg.f a0).bind fun bt371 => (if bt357.1 = bt359.1 then (if bt357.2 = bt359.2 then (if bt361.1 = bt363.1 then (if bt361.2 = bt363.2 then (if bt365.1 = bt367.1 then (if bt365.2 = bt367.2 then (if bt369.1 = bt371.1 then (if bt369.2 = bt371.2 then ((money_May.f a0).bind fun t373 => ((lombardref01_May.f a0).bind fun t374 => (some (t373 == t374)))) else (some false)) else (some false)) else (some false)) else (some false)) else (some false)) else (some false)) else (some false)) else (some false)))))))))) = some r := by rw [if_pos rfl] at H; exact H
    clear H
    have H := H1
    clear H1
    replace H := Option.bind_eq_some_iff.mp H
    obtain ⟨⟨t357, t358⟩, A50, H⟩ := H
    replace H : ((lombardref01_Add.f a0 a1).bind fun bt359 => ((money_Sub.f a0 a1).bind fun bt361 => ((lombardref01_Sub.f a0 a1).bind fun bt363 => ((money_Mul.f a0 a1).bind fun bt365 => ((lombardref01_Mul.f k a0 a1).bind fun bt367 => ((money_Neg.f a0).bind fun bt369 => ((lombardref01_Neg.f a0).bind fun bt371 => (if t357 = bt359.1 then (if t358 = bt359.2 then (if bt361.1 = bt363.1 then (if bt361.2 = bt363.2 then (if bt365.1 = bt367.1 then (if bt365.2 = bt367.2 then (if bt369.1 = bt371.1 then (if bt369.2 = bt371.2 then ((money_May.f a0).bind fun t373 => ((lombardref01_May.f a0).bind fun t374 => (some (t373 == t374)))) else (some false)) else (some false)) else (some false)) else (some false)) else (some false)) else (some false)) else (some false)) else (some false))))))))) = some r := H
    have A5 := Aside0.mk A50
    clear A50
    replace H := Option.bind_eq_some_iff.mp H
    obtain ⟨⟨t359, t360⟩, A60, H⟩ := H
    replace H : ((money_Sub.f a0 a1).bind fun bt361 => ((lombardref01_Sub.f a0 a1).bind fun bt363 => ((money_Mul.f a0 a1).bind fun bt365 => ((lombardref01_Mul.f k a0 a1).bind fun bt367 => ((money_Neg.f a0).bind fun bt369 => ((lombardref01_Neg.f a0).bind fun bt371 => (if t357 = t359 then (if t358 = t360 then (if bt361.1 = bt363.1 then (if bt361.2 = bt363.2 then (if bt365.1 = bt367.1 then (if bt365.2 = bt367.2 then (if bt369.1 = bt371.1 then (if bt369.2 = bt371.2 then ((money_May.f a0).bind fun t373 => ((lombardref01_May.f a0).bind fun t374 => (some (t373 == t374)))) else (some false)) else (some false)) else (some false)) else (some false)) else (some false)) else (some false)) else (some false)) else (some false)))))))) = some r := H
    have A6 := Aside0.mk A60
    clear A60
    replace H := Option.bind_eq_some_iff.mp H
    obtain ⟨⟨t361, t362⟩, A70, H⟩ := H
    replace H : ((lombardref01_Sub.f a0 a1).bind fun bt363 => ((money_Mul.f a0 a1).bind fun bt365 => ((lombardref01_Mul.f k a0 a1).bind fun bt367 => ((money_Neg.f a0).bind fun bt369 => ((lombardref01_Neg.f a0).bind fun bt371 => (if t357 = t359 then (if t358 = t360 then (if t361 = bt363.1 then (if t362 = bt363.2 then (if bt365.1 = bt367.1 then (if bt365.2 = bt367.2 then (if bt369.1 = bt371.1 then (if bt369.2 = bt371.2 then ((money_May.f a0).bind fun t373 => ((lombardref01_May.f a0).bind fun t374 => (some (t373 == t374)))) else (some false)) else (some false)) else (some false)) else (some false)) else (some false)) else (some false)) else (some false)) else (some false))))))) = some r := H
    have A7 := Aside0.mk A70
    clear A70
    replace H := Option.bind_eq_some_iff.mp H
    obtain ⟨⟨t363, t364⟩, A80, H⟩ := H
    replace H : ((money_Mul.f a0 a1).bind fun bt365 => ((lombardref01_Mul.f k a0 a1).bind fun bt367 => ((money_Neg.f a0).bind fun bt369 => ((lombardref01_Neg.f a0).bind fun bt371 => (if t357 = t359 then (if t358 = t360 then (if t361 = t363 then (if t362 = t364 then (if bt365.1 = bt367.1 then (if bt365.2 = bt367.2 then (if bt369.1 = bt371.1 then (if bt369.2 = bt371.2 then ((money_May.f a0).bind fun t373 => ((lombardref01_May.f a0).bind fun t374 => (some (t373 == t374)))) else (some false)) else (some false)) else (some false)) else (some false)) else (some false)) else (some false)) else (some false)) else (some false)))))) = some r := H
    have A8 := Aside0.mk A80
    clear A80
    replace H := Option.bind_eq_some_iff.mp H
    obtain ⟨⟨t365, t366⟩, A90, H⟩ := H
    replace H : ((lombardref01_Mul.f k a0 a1).bind fun bt367 => ((money_Neg.f a0).bind fun bt369 => ((lombardref01_Neg.f a0).bind fun bt371 => (if t357 = t359 then (if t358 = t360 then (if t361 = t363 then (if t362 = t364 then (if t365 = bt367.1 then (if t366 = bt367.2 then (if bt369.1 = bt371.1 then (if bt369.2 = bt371.2 then ((money_May.f a0).bind fun t373 => ((lombardref01_May.f a0).bind fun t374 => (some (t373 == t374)))) else (some false)) else (some false)) else (some false)) else (some false)) else (some false)) else (some false)) else (some false)) else (some false))))) = some r := H
    have A9 := Aside0.mk A90
    clear A90
    replace H := Option.bind_eq_some_iff.mp H
    obtain ⟨⟨t367, t368⟩, A100, H⟩ := H
    replace H : ((money_Neg.f a0).bind fun bt369 => ((lombardref01_Neg.f a0).bind fun bt371 => (if t357 = t359 then (if t358 = t360 then (if t361 = t363 then (if t362 = t364 then (if t365 = t367 then (if t366 = t368 then (if bt369.1 = bt371.1 then (if bt369.2 = bt371.2 then ((money_May.f a0).bind fun t373 => ((lombardref01_May.f a0).bind fun t374 => (some (t373 == t374)))) else (some false)) else (some false)) else (some false)) else (some false)) else (some false)) else (some false)) else (some false)) else (some false)))) = some r := H
    have A10 := Aside0.mk A100
    clear A100
    replace H := Option.bind_eq_some_iff.mp H
    obtain ⟨⟨t369, t370⟩, A110, H⟩ := H
    replace H : ((lombardref01_Neg.f a0).bind fun bt371 => (if t357 = t359 then (if t358 = t360 then (if t361 = t363 then (if t362 = t364 then (if t365 = t367 then (if t366 = t368 then (if t369 = bt371.1 then (if t370 = bt371.2 then ((money_May.f a0).bind fun t373 => ((lombardref01_May.f a0).bind fun t374 => (some (t373 == t374)))) else (some false)) else (some false)) else (some false)) else (some false)) else (some false)) else (some false)) else (some false)) else (some false))) = some r := H
    have A11 := Aside0.mk A110
    clear A110
    replace H := Option.bind_eq_some_iff.mp H
    obtain ⟨⟨t371, t372⟩, A120, H⟩ := H
    replace H : (if t357 = t359 then (if t358 = t360 then (if t361 = t363 then (if t362 = t364 then (if t365 = t367 then (if t366 = t368 then (if t369 = t371 then (if t370 = t372 then ((money_May.f a0).bind fun t373 => ((lombardref01_May.f a0).bind fun t374 => (some (t373 == t374)))) else (some false)) else (some false)) else (some false)) else (some false)) else (some false)) else (some false)) else (some false)) else (some false)) = some r := H
    have A12 := Aside0.mk A120
    clear A120
    have HC13 := Aside0.mk H
    clear H
    go_enter Try.func10, Try.ntmps10
    go_upto_region 11 with (first | ((with_reducible refine gate_callee (f := 20) rfl ?_); refine goesL_ (some 21) rfl rfl Try.func20 (by kernel_rfl) rfl #[] rfl (by (try simp only [List.map_toArray, List.map_cons, List.map_nil]); first | done | rfl | (simp only [List.length_drop, List.length_take]; rfl)) ?_; (with_reducible refine (lombardlaw01_alive.calls k  true _ A3.out).mono ?_); rintro e w14 ⟨rfl, hb⟩; refine ⟨_, rfl, ?_⟩; have n0_ := Aside0.mk (below_step (by repeat (first | (with_reducible first | exact HB.out | apply below_alloc | apply pw_below_drewN | apply below_drew1) | exact HB.out)) hb); clear HB; have HB := n0_; clear n0_; (try clear hb); (try clear hb2); (try clear hk); (try clear hi)) | ((with_reducible refine gate_callee (f := 29) rfl ?_); refine goesL_ (some 26) rfl rfl Try.func29 (by kernel_rfl) rfl #[.int .i64 a0, .int .i64 a1] rfl (by (try simp only [List.map_toArray, List.map_cons, List.map_nil]); first | done | rfl | (simp only [List.length_drop, List.length_take]; rfl)) ?_; (with_reducible refine (money_Add.calls a0 a1 t357 t358 _ A5.out).mono ?_); rintro e w' ⟨rfl, ⟨nd, rfl⟩⟩; refine ⟨_, rfl, ?_⟩) | ((with_reducible refine gate_callee (f := 30) rfl ?_); refine goesL_ (some 32) rfl rfl Try.func30 (by kernel_rfl) rfl #[.int .i64 a0, .int .i64 a1] rfl (by (try simp only [List.map_toArray, List.map_cons, List.map_nil]); first | done | rfl | (simp only [List.length_drop, List.length_take]; rfl)) ?_; (with_reducible refine (lombardref01_Add.calls a0 a1 t359 t360 _ A6.out).mono ?_); rintro e w' ⟨rfl, ⟨nd, rfl⟩⟩; refine ⟨_, rfl, ?_⟩) | ((with_reducible refine gate_callee (f := 31) rfl ?_); refine goesL_ (some 38) rfl rfl Try.func31 (by kernel_rfl) rfl #[.int .i64 a0, .int .i64 a1] rfl (by (try simp only [List.map_toArray, List.map_cons, List.map_nil]); first | done | rfl | (simp only [List.length_drop, List.length_take]; rfl)) ?_; (with_reducible refine (money_Sub.calls a0 a1 t361 t362 _ A7.out).mono ?_); rintro e w' ⟨rfl, ⟨nd, rfl⟩⟩; refine ⟨_, rfl, ?_⟩) | ((with_reducible refine gate_callee (f := 32) rfl ?_); refine goesL_ (some 44) rfl rfl Try.func32 (by kernel_rfl) rfl #[.int .i64 a0, .int .i64 a1] rfl (by (try simp only [List.map_toArray, List.map_cons, List.map_nil]); first | done | rfl | (simp only [List.length_drop, List.length_take]; rfl)) ?_; (with_reducible refine (lombardref01_Sub.calls a0 a1 t363 t364 _ A8.out).mono ?_); rintro e w' ⟨rfl, ⟨nd, rfl⟩⟩; refine ⟨_, rfl, ?_⟩) | ((with_reducible refine gate_callee (f := 33) rfl ?_); refine goesL_ (some 50) rfl rfl Try.func33 (by kernel_rfl) rfl #[.int .i64 a0, .int .i64 a1] rfl (by (try simp only [List.map_toArray, List.map_cons, List.map_nil]); first | done | rfl | (simp only [List.length_drop, List.length_take]; rfl)) ?_; (with_reducible refine (money_Mul.calls a0 a1 t365 t366 _ A9.out).mono ?_); rintro e w' ⟨rfl, ⟨nd, rfl⟩⟩; refine ⟨_, rfl, ?_⟩) | ((with_reducible refine gate_callee (f := 34) rfl ?_); refine goesL_ (some 56) rfl rfl Try.func34 (by kernel_rfl) rfl #[.int .i64 a0, .int .i64 a1] rfl (by (try simp only [List.map_toArray, List.map_cons, List.map_nil]); first | done | rfl | (simp only [List.length_drop, List.length_take]; rfl)) ?_; (with_reducible refine (lombardref01_Mul.calls k a0 a1 t367 t368 _ A10.out).mono ?_); rintro e w' ⟨rfl, ⟨nd, rfl⟩⟩; refine ⟨_, rfl, ?_⟩) | ((with_reducible refine gate_callee (f := 35) rfl ?_); refine goesL_ (some 61) rfl rfl Try.func35 (by kernel_rfl) rfl #[.int .i64 a0] rfl (by (try simp only [List.map_toArray, List.map_cons, List.map_nil]); first | done | rfl | (simp only [List.length_drop, List.length_take]; rfl)) ?_; (with_reducible refine (money_Neg.calls a0 t369 t370 _ A11.out).mono ?_); rintro e w' ⟨rfl, ⟨nd, rfl⟩⟩; refine ⟨_, rfl, ?_⟩) | ((with_reducible refine gate_callee (f := 36) rfl ?_); refine goesL_ (some 66) rfl rfl Try.func36 (by kernel_rfl) rfl #[.int .i64 a0] rfl (by (try simp only [List.map_toArray, List.map_cons, List.map_nil]); first | done | rfl | (simp only [List.length_drop, List.length_take]; rfl)) ?_; (with_reducible refine (lombardref01_Neg.calls a0 t371 t372 _ A12.out).mono ?_); rintro e w' ⟨rfl, ⟨nd, rfl⟩⟩; refine ⟨_, rfl, ?_⟩))
    have H := HC13.out
    clear HC13
    by_cases c15 : t357 = t359
    · rw [if_pos c15] at H
      have c15b0 : (t357 == t359) = true := beq_iff_eq.mpr c15
      have c15b1 : (t357 != t359) = false := bne_eq_false_iff_eq.mpr c15
      clear c15
      by_cases c16 : t358 = t360
      · rw [if_pos c16] at H
        have c16b0 : (t358 == t360) = true := beq_iff_eq.mpr c16
        have c16b1 : (t358 != t360) = false := bne_eq_false_iff_eq.mpr c16
        clear c16
        by_cases c17 : t361 = t363
        · rw [if_pos c17] at H
          have c17b0 : (t361 == t363) = true := beq_iff_eq.mpr c17
          have c17b1 : (t361 != t363) = false := bne_eq_false_iff_eq.mpr c17
          clear c17
          by_cases c18 : t362 = t364
          · rw [if_pos c18] at H
            have c18b0 : (t362 == t364) = true := beq_iff_eq.mpr c18
            have c18b1 : (t362 != t364) = false := bne_eq_false_iff_eq.mpr c18
            clear c18
            by_cases c19 : t365 = t367
            · rw [if_pos c19] at H
              have c19b0 : (t365 == t367) = true := beq_iff_eq.mpr c19
              have c19b1 : (t365 != t367) = false := bne_eq_false_iff_eq.mpr c19
              clear c19
              by_cases c20 : t366 = t368
              · rw [if_pos c20] at H
                have c20b0 : (t366 == t368) = true := beq_iff_eq.mpr c20
                have c20b1 : (t366 != t368) = false := bne_eq_false_iff_eq.mpr c20
                clear c20
                by_cases c21 : t369 = t371
                · rw [if_pos c21] at H
                  have c21b0 : (t369 == t371) = true := beq_iff_eq.mpr c21
                  have c21b1 : (t369 != t371) = false := bne_eq_false_iff_eq.mpr c21
                  clear c21
                  by_cases c22 : t370 = t372
                  · rw [if_pos c22] at H
                    have c22b0 : (t370 == t372) = true := beq_iff_eq.mpr c22
                    have c22b1 : (t370 != t372) = false := bne_eq_false_iff_eq.mpr c22
                    clear c22
                    replace H := Option.bind_eq_some_iff.mp H
                    obtain ⟨t373, A230, H⟩ := H
                    replace H : ((lombardref01_May.f a0).bind fun t374 => (some (t373 == t374))) = some r := H
                    have A23 := Aside0.mk A230
                    clear A230
                    replace H := Option.bind_eq_some_iff.mp H
                    obtain ⟨t374, A240, H⟩ := H
                    replace H : (some (t373 == t374)) = some r := H
                    have A24 := Aside0.mk A240
                    clear A240
                    obtain rfl := Option.some.inj H
                    go_wp2_with (first | (go_at_call 37; (with_reducible refine (money_May.calls a0 t373 _ A23.out).mono ?_); rintro e w' ⟨rfl, ⟨nd, rfl⟩⟩) | (go_at_call 38; (with_reducible refine (lombardref01_May.calls a0 t374 _ A24.out).mono ?_); rintro e w' ⟨rfl, ⟨nd, rfl⟩⟩))
                    go_ret
                    exact ⟨by first | rfl | (simp [errW_none, errW_some] <;> rfl) | (simp [*, errW_none, errW_some] <;> rfl), by repeat (first | (with_reducible first | exact HB.out | apply below_alloc | apply pw_below_drewN | apply below_drew1) | exact HB.out)⟩
                  · rw [if_neg c22] at H
                    have c22b0 : (t370 == t372) = false := beq_eq_false_iff_ne.mpr c22
                    have c22b1 : (t370 != t372) = true := bne_iff_ne.mpr c22
                    obtain rfl := Option.some.inj H
                    go_wp2
                    go_ret
                    exact ⟨by first | rfl | (simp [errW_none, errW_some] <;> rfl) | (simp [*, errW_none, errW_some] <;> rfl), by repeat (first | (with_reducible first | exact HB.out | apply below_alloc | apply pw_below_drewN | apply below_drew1) | exact HB.out)⟩
                · rw [if_neg c21] at H
                  have c21b0 : (t369 == t371) = false := beq_eq_false_iff_ne.mpr c21
                  have c21b1 : (t369 != t371) = true := bne_iff_ne.mpr c21
                  obtain rfl := Option.some.inj H
                  go_wp2
                  go_ret
                  exact ⟨by first | rfl | (simp [errW_none, errW_some] <;> rfl) | (simp [*, errW_none, errW_some] <;> rfl), by repeat (first | (with_reducible first | exact HB.out | apply below_alloc | apply pw_below_drewN | apply below_drew1) | exact HB.out)⟩
              · rw [if_neg c20] at H
                have c20b0 : (t366 == t368) = false := beq_eq_false_iff_ne.mpr c20
                have c20b1 : (t366 != t368) = true := bne_iff_ne.mpr c20
                obtain rfl := Option.some.inj H
                go_wp2
                go_ret
                exact ⟨by first | rfl | (simp [errW_none, errW_some] <;> rfl) | (simp [*, errW_none, errW_some] <;> rfl), by repeat (first | (with_reducible first | exact HB.out | apply below_alloc | apply pw_below_drewN | apply below_drew1) | exact HB.out)⟩
            · rw [if_neg c19] at H
              have c19b0 : (t365 == t367) = false := beq_eq_false_iff_ne.mpr c19
              have c19b1 : (t365 != t367) = true := bne_iff_ne.mpr c19
              obtain rfl := Option.some.inj H
              go_wp2
              go_ret
              exact ⟨by first | rfl | (simp [errW_none, errW_some] <;> rfl) | (simp [*, errW_none, errW_some] <;> rfl), by repeat (first | (with_reducible first | exact HB.out | apply below_alloc | apply pw_below_drewN | apply below_drew1) | exact HB.out)⟩
          · rw [if_neg c18] at H
            have c18b0 : (t362 == t364) = false := beq_eq_false_iff_ne.mpr c18
            have c18b1 : (t362 != t364) = true := bne_iff_ne.mpr c18
            obtain rfl := Option.some.inj H
            go_wp2
            go_ret
            exact ⟨by first | rfl | (simp [errW_none, errW_some] <;> rfl) | (simp [*, errW_none, errW_some] <;> rfl), by repeat (first | (with_reducible first | exact HB.out | apply below_alloc | apply pw_below_drewN | apply below_drew1) | exact HB.out)⟩
        · rw [if_neg c17] at H
          have c17b0 : (t361 == t363) = false := beq_eq_false_iff_ne.mpr c17
          have c17b1 : (t361 != t363) = true := bne_iff_ne.mpr c17
          obtain rfl := Option.some.inj H
          go_wp2
          go_ret
          exact ⟨by first | rfl | (simp [errW_none, errW_some] <;> rfl) | (simp [*, errW_none, errW_some] <;> rfl), by repeat (first | (with_reducible first | exact HB.out | apply below_alloc | apply pw_below_drewN | apply below_drew1) | exact HB.out)⟩
      · rw [if_neg c16] at H
        have c16b0 : (t358 == t360) = false := beq_eq_false_iff_ne.mpr c16
        have c16b1 : (t358 != t360) = true := bne_iff_ne.mpr c16
        obtain rfl := Option.some.inj H
        go_wp2
        go_ret
        exact ⟨by first | rfl | (simp [errW_none, errW_some] <;> rfl) | (simp [*, errW_none, errW_some] <;> rfl), by repeat (first | (with_reducible first | exact HB.out | apply below_alloc | apply pw_below_drewN | apply below_drew1) | exact HB.out)⟩
    · rw [if_neg c15] at H
      have c15b0 : (t357 == t359) = false := beq_eq_false_iff_ne.mpr c15
      have c15b1 : (t357 != t359) = true := bne_iff_ne.mpr c15
      obtain rfl := Option.some.inj H
      go_wp2
      go_ret
      exact ⟨by first | rfl | (simp [errW_none, errW_some] <;> rfl) | (simp [*, errW_none, errW_some] <;> rfl), by repeat (first | (with_reducible first | exact HB.out | apply below_alloc | apply pw_below_drewN | apply below_drew1) | exact HB.out)⟩
  · replace c4 := Bool.eq_false_iff.mpr c4
    subst c4
    have H1 : (some false) = some r := by rw [if_neg (show ¬ (false = true) by decide)] at H; exact H
    clear H
    have H := H1
    clear H1
    obtain rfl := Option.some.inj H
    go_enter Try.func10, Try.ntmps10
    go_wp2_with (first | ((with_reducible refine gate_callee (f := 20) rfl ?_); refine goesL_ (some 21) rfl rfl Try.func20 (by kernel_rfl) rfl #[] rfl (by (try simp only [List.map_toArray, List.map_cons, List.map_nil]); first | done | rfl | (simp only [List.length_drop, List.length_take]; rfl)) ?_; (with_reducible refine (lombardlaw01_alive.calls k  false _ A3.out).mono ?_); rintro e w25 ⟨rfl, hb⟩; refine ⟨_, rfl, ?_⟩; have n0_ := Aside0.mk (below_step (by repeat (first | (with_reducible first | exact HB.out | apply below_alloc | apply pw_below_drewN | apply below_drew1) | exact HB.out)) hb); clear HB; have HB := n0_; clear n0_; (try clear hb); (try clear hb2); (try clear hk); (try clear hi)))
    go_ret
    exact ⟨by first | rfl | (simp [errW_none, errW_some] <;> rfl) | (simp [*, errW_none, errW_some] <;> rfl), by repeat (first | (with_reducible first | exact HB.out | apply below_alloc | apply pw_below_drewN | apply below_drew1) | exact HB.out)⟩

/-- THE ONE PURE STATEMENT of lombardlaw01_MoneyReckons: yours. -/
def lombardlaw01_MoneyReckons.Pure : Prop := ∀ (a0 : Int) (a1 : Int), (Lit.int .i64 a0).wf = true → (Lit.int .i64 a1).wf = true → ∃ k, lombardlaw01_MoneyReckons.f k a0 a1 = some true
theorem lombardlaw01_MoneyReckons.walk (P : lombardlaw01_MoneyReckons.Pure) (a0 : Int) (a1 : Int) (w : World) (w0 : (Lit.int .i64 a0).wf = true) (w1 : (Lit.int .i64 a1).wf = true) :
    Calls Try.prog 10 #[.int .i64 a0, .int .i64 a1] w fun e w' => e = .returned (.bool true) ∧ Below w.heap.size w w' := by
  obtain ⟨k, h⟩ := P a0 a1 w0 w1
  refine (lombardlaw01_MoneyReckons.calls k a0 a1 true w h).mono ?_
  rintro e w' ⟨rfl, hd⟩
  exact ⟨rfl, hd⟩

end Go.Proofs.Ytohbdjfabghagaa.S
