/- Printed by a program of this session out of the translation: what each function called here computes, and that its call comes to just that. Conditions: none beyond those that each theorem names. -/
import Derived.Test.YtchpeobenlnemaaSx0
import Derived.Test.YtchpeobenlnemaaSxRateOverRateYield
namespace Go.Proofs.Ytchpeobenlnemaa.S
open Go.RowKit Go.Proofs.YtchpeobenlnemaaW.PrintWords Go.Proofs.YtchpeobenlnemaaW.PrintLast Go.Proofs.YtchpeobenlnemaaW.PrintMore
attribute [local go_sem] max2_int min2_int max_two min_two max_three min_three max_four min_four   -- for this text's walks alone
attribute [local go_sem] Go.Proofs.Ytchpeobenlnemaa.XWalk.cell2
set_option linter.unusedVariables false
set_option linter.unusedSimpArgs false

/-! ### rate_Interest: function 19 -/
def rate_Interest.f (k : Nat) (a0 : Int) (a1 : Int) : Option (Int × Int) := (rate_over_rate_yield.f k a0 a1).bind fun bt145 => (some (bt145.1, bt145.2))
theorem rate_Interest.mono : ∀ a0 a1 k, LeO (rate_Interest.f k a0 a1) (rate_Interest.f (k + 1) a0 a1) := by
  intro a0 a1 k
  unfold rate_Interest.f
  repeat' first
      | (with_reducible exact rate_over_rate_yield.mono _ _ _)
      | (with_reducible exact LeO.refl _)
      | (with_reducible exact LeO.none _)
      | (with_reducible refine LeO.ite ?_ ?_)
      | (with_reducible refine LeO.bind ?_ (fun _ => ?_))
      | exact rate_over_rate_yield.mono _ _ _
      | exact LeO.none _
      | refine LeO.ite ?_ ?_
      | refine LeO.bind ?_ (fun _ => ?_)
set_option maxHeartbeats 8000000 in
set_option maxRecDepth 100000 in
theorem rate_Interest.calls (k : Nat) (a0 : Int) (a1 : Int) (r1 : Int) (r2 : Int) (w : World) (h : rate_Interest.f k a0 a1 = some (r1, r2)) :
    Calls Try.prog 19 #[.int .i64 a0, .int .i64 a1] w fun e w' => e = .returned (.tuple #[.int .i64 r1, .int .i64 r2]) ∧ Below w.heap.size w w' := by
  have HB := Aside0.mk (Below.refl w.heap.size w)
  have H : ((rate_over_rate_yield.f k a0 a1).bind fun bt145 => (some (bt145.1, bt145.2))) = some (r1, r2) := h
  clear h
  replace H := Option.bind_eq_some_iff.mp H
  obtain ⟨⟨t145, t146⟩, A30, H⟩ := H
  replace H : (some (t145, t146)) = some (r1, r2) := H
  have A3 := Aside0.mk A30
  clear A30
  simp only [Option.some.injEq, Prod.mk.injEq] at H
  obtain ⟨rfl, rfl⟩ := H
  go_enter Try.func19, Try.ntmps19
  go_wp2_with (first | ((with_reducible refine gate_callee (f := 40) rfl ?_); refine goesL_ (some 8) rfl rfl Try.func40 (by kernel_rfl) rfl #[.int .i64 a0, .int .i64 a1] rfl (by (try simp only [List.map_toArray, List.map_cons, List.map_nil]); first | done | rfl | (simp only [List.length_drop, List.length_take]; rfl)) ?_; (with_reducible refine (rate_over_rate_yield.calls k a0 a1 t145 t146 _ A3.out).mono ?_); rintro e w4 ⟨rfl, hb⟩; refine ⟨_, rfl, ?_⟩; have n0_ := Aside0.mk (below_step (by repeat (first | (with_reducible first | exact HB.out | apply below_alloc | apply pw_below_drewN | apply below_drew1) | exact HB.out)) hb); clear HB; have HB := n0_; clear n0_; (try clear hb); (try clear hb2); (try clear hk); (try clear hi)))
  go_ret2
  exact ⟨by first | rfl | (simp [errW_none, errW_some] <;> rfl) | (simp [*, errW_none, errW_some] <;> rfl), by repeat (first | (with_reducible first | exact HB.out | apply below_alloc | apply pw_below_drewN | apply below_drew1) | exact HB.out)⟩

end Go.Proofs.Ytchpeobenlnemaa.S
