/- What a function computes, and that its call comes to that. Conditions: as each theorem names. -/
import Derived.Test.YtjgleaakgbnjgaaSx0
import Derived.Test.YtjgleaakgbnjgaaSxRateOverRateBack
set_option linter.unusedSimpArgs false
set_option linter.unusedVariables false
namespace Go.Proofs.Ytjgleaakgbnjgaa.S
open Go.RowKit Go.Proofs.YtjgleaakgbnjgaaW.PrintWords Go.Proofs.YtjgleaakgbnjgaaW.PrintLast Go.Proofs.YtjgleaakgbnjgaaW.PrintMore
attribute [local go_sem] max2_int min2_int max_two min_two max_three min_three max_four min_four
attribute [local go_sem] XWalk.cell2
def rate_Discount.f (k : Nat) (a0 : Int) (a1 : Int) : Option (Int × Int) := (rate_over_rate_back.f k a0 a1).bind fun bt139 => (some (bt139.1, bt139.2))
set_option maxHeartbeats 8000000 in
set_option maxRecDepth 100000 in
theorem rate_Discount.calls (k : Nat) (a0 : Int) (a1 : Int) (r1 : Int) (r2 : Int) (w : World) (h : rate_Discount.f k a0 a1 = some (r1, r2)) :
  Calls Star.prog 63 #[.int .i64 a0, .int .i64 a1] w fun e w' => e = .returned (.tuple #[.int .i64 r1, .int .i64 r2]) ∧ Below w.heap.size w w' := by
 have HB := Aside0.mk (Below.refl w.heap.size w)
 have H : ((rate_over_rate_back.f k a0 a1).bind fun bt139 => (some (bt139.1, bt139.2))) = some (r1, r2) := h
 clear h
 replace H := Option.bind_eq_some_iff.mp H
 obtain ⟨⟨t139, t140⟩, A30, H⟩ := H
 replace H : (some (t139, t140)) = some (r1, r2) := H
 have A3 := Aside0.mk A30
 clear A30
 simp only [Option.some.injEq, Prod.mk.injEq] at H
 obtain ⟨rfl, rfl⟩ := H
 go_enter Star.func63, Try.ntmps63
 go_wp2_with (first | ((with_reducible refine gate_callee (f := 81) rfl ?_); refine goesL_ (some 8) rfl rfl Star.func81 (by kernel_rfl) rfl #[.int .i64 a0, .int .i64 a1] rfl (by (try simp only [List.map_toArray, List.map_cons, List.map_nil]); first | done | rfl | (simp only [List.length_drop, List.length_take]; rfl)) ?_; (with_reducible refine (rate_over_rate_back.calls k a0 a1 t139 t140 _ A3.out).mono ?_); rintro e w4 ⟨rfl, hb⟩; refine ⟨_, rfl, ?_⟩; have n0_ := Aside0.mk (below_step (by repeat (first | (with_reducible first | exact HB.out | apply below_alloc | apply pw_below_drewN | apply below_drew1) | exact HB.out)) hb); clear HB; have HB := n0_; clear n0_; (try clear hb); (try clear hb2); (try clear hk); (try clear hi)))
 go_ret2
 exact ⟨by first | rfl | (simp [errW_none, errW_some] <;> rfl) | (simp [*, errW_none, errW_some] <;> rfl), by repeat (first | (with_reducible first | exact HB.out | apply below_alloc | apply pw_below_drewN | apply below_drew1) | exact HB.out)⟩
end Go.Proofs.Ytjgleaakgbnjgaa.S
