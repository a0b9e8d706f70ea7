/- What a function computes, and that its call comes to that. Conditions: as each theorem names. -/
import Derived.Test.YtjgleaakgbnjgaaSx0
import Derived.Test.YtjgleaakgbnjgaaSxRateMay
import Derived.Test.YtjgleaakgbnjgaaSxWideMulDiv
import Derived.Test.YtjgleaakgbnjgaaSxRateBackTerms
import Derived.Handy
set_option linter.unusedSimpArgs false
set_option linter.unusedVariables false
namespace Go.Proofs.Ytjgleaakgbnjgaa.S
open Go.RowKit Go.Proofs.YtjgleaakgbnjgaaW.PrintWords Go.Proofs.YtjgleaakgbnjgaaW.PrintLast Go.Proofs.YtjgleaakgbnjgaaW.PrintMore
attribute [local go_sem] max2_int min2_int max_two min_two max_three min_three max_four min_four
attribute [local go_sem] XWalk.cell2
def rate_over_rate_back.f (k : Nat) (a0 : Int) (a1 : Int) : Option (Int × Int) := (rate_May.f a1).bind fun t134 => (if t134 = true then ((rate_back_terms.f a1).bind fun bt135 => ((wide_MulDiv.f k a0 bt135.1 bt135.2 1).bind fun bt137 => (some (bt137.1, bt137.2)))) else (some (0, 2)))
set_option maxHeartbeats 8000000 in
set_option maxRecDepth 100000 in
theorem rate_over_rate_back.calls (k : Nat) (a0 : Int) (a1 : Int) (r1 : Int) (r2 : Int) (w : World) (h : rate_over_rate_back.f k a0 a1 = some (r1, r2)) :
  Calls Star.prog 81 #[.int .i64 a0, .int .i64 a1] w fun e w' => e = .returned (.tuple #[.int .i64 r1, .int .i64 r2]) ∧ Below w.heap.size w w' := by
 have HB := Aside0.mk (Below.refl w.heap.size w)
 have H : ((rate_May.f a1).bind fun t134 => (if t134 = true then ((rate_back_terms.f a1).bind fun bt135 => ((wide_MulDiv.f k a0 bt135.1 bt135.2 1).bind fun bt137 => (some (bt137.1, bt137.2)))) else (some (0, 2)))) = some (r1, r2) := h
 clear h
 replace H := Option.bind_eq_some_iff.mp H
 obtain ⟨t134, A30, H⟩ := H
 replace H : (if t134 = true then ((rate_back_terms.f a1).bind fun bt135 => ((wide_MulDiv.f k a0 bt135.1 bt135.2 1).bind fun bt137 => (some (bt137.1, bt137.2)))) else (some (0, 2))) = some (r1, r2) := H
 have A3 := Aside0.mk A30
 clear A30
 by_cases c4 : t134 = true
 ·subst c4
  have H1 : ((rate_back_terms.f a1).bind fun bt135 => ((wide_MulDiv.f k a0 bt135.1 bt135.2 1).bind fun bt137 => (some (bt137.1, bt137.2)))) = some (r1, r2) := by rw [if_pos rfl] at H; exact H
  clear H
  have H := H1
  clear H1
  replace H := Option.bind_eq_some_iff.mp H
  obtain ⟨⟨t135, t136⟩, A50, H⟩ := H
  replace H : ((wide_MulDiv.f k a0 t135 t136 1).bind fun bt137 => (some (bt137.1, bt137.2))) = some (r1, r2) := H
  have A5 := Aside0.mk A50
  clear A50
  replace H := Option.bind_eq_some_iff.mp H
  obtain ⟨⟨t137, t138⟩, A60, H⟩ := H
  replace H : (some (t137, t138)) = some (r1, r2) := H
  have A6 := Aside0.mk A60
  clear A60
  simp only [Option.some.injEq, Prod.mk.injEq] at H
  obtain ⟨rfl, rfl⟩ := H
  go_enter Star.func81, Try.ntmps81
  go_wp2_with (first | ((with_reducible refine gate_callee (f := 26) rfl ?_); refine goesL_ (some 9) rfl rfl Star.func26 (by kernel_rfl) rfl #[.int .i64 a1] rfl (by (try simp only [List.map_toArray, List.map_cons, List.map_nil]); first | done | rfl | (simp only [List.length_drop, List.length_take]; rfl)) ?_; (with_reducible refine (rate_May.calls a1 true _ A3.out).mono ?_); rintro e w' ⟨rfl, ⟨nd, rfl⟩⟩; refine ⟨_, rfl, ?_⟩) | (go_at_call 126; (with_reducible refine (rate_back_terms.calls a1 t135 t136 _ A5.out).mono ?_); rintro e w' ⟨rfl, ⟨nd, rfl⟩⟩) | ((with_reducible refine gate_callee (f := 75) rfl ?_); refine goesL_ (some 20) rfl rfl Star.func75 (by kernel_rfl) rfl #[.int .i64 a0, .int .i64 t135, .int .i64 t136, .int .i64 1] rfl (by (try simp only [List.map_toArray, List.map_cons, List.map_nil]); first | done | rfl | (simp only [List.length_drop, List.length_take]; rfl)) ?_; (with_reducible refine (wide_MulDiv.calls k a0 t135 t136 1 t137 t138 _ A6.out).mono ?_); rintro e w7 ⟨rfl, hb⟩; refine ⟨_, rfl, ?_⟩; have n0_ := Aside0.mk (below_step (by repeat (first | (with_reducible first | exact HB.out | apply below_alloc | apply pw_below_drewN | apply below_drew1) | exact HB.out)) hb); clear HB; have HB := n0_; clear n0_; (try clear hb); (try clear hb2); (try clear hk); (try clear hi)))
  go_ret2
  exact ⟨by first | rfl | (simp [errW_none, errW_some] <;> rfl) | (simp [*, errW_none, errW_some] <;> rfl), by repeat (first | (with_reducible first | exact HB.out | apply below_alloc | apply pw_below_drewN | apply below_drew1) | exact HB.out)⟩
 ·replace c4 := Bool.eq_false_iff.mpr c4
  subst c4
  have H1 : (some (0, 2)) = some (r1, r2) := by rw [if_neg (show ¬ (false = true) by decide)] at H; exact H
  clear H
  have H := H1
  clear H1
  simp only [Option.some.injEq, Prod.mk.injEq] at H
  obtain ⟨rfl, rfl⟩ := H
  go_enter Star.func81, Try.ntmps81
  go_wp2_with (first | ((with_reducible refine gate_callee (f := 26) rfl ?_); refine goesL_ (some 9) rfl rfl Star.func26 (by kernel_rfl) rfl #[.int .i64 a1] rfl (by (try simp only [List.map_toArray, List.map_cons, List.map_nil]); first | done | rfl | (simp only [List.length_drop, List.length_take]; rfl)) ?_; (with_reducible refine (rate_May.calls a1 false _ A3.out).mono ?_); rintro e w' ⟨rfl, ⟨nd, rfl⟩⟩; refine ⟨_, rfl, ?_⟩))
  go_ret2
  exact ⟨by first | rfl | (simp [errW_none, errW_some] <;> rfl) | (simp [*, errW_none, errW_some] <;> rfl), by repeat (first | (with_reducible first | exact HB.out | apply below_alloc | apply pw_below_drewN | apply below_drew1) | exact HB.out)⟩
end Go.Proofs.Ytjgleaakgbnjgaa.S
