/- Printed by a program of this session out of the translation: what each function called here computes, and that its call comes to just that. Conditions: none beyond those that each theorem names. -/
import Derived.Test.YtioicmialbimfaaSx0
import Derived.Test.YtioicmialbimfaaSxRateMay
import Derived.Test.YtioicmialbimfaaSxLombardlaw03Alive
import Derived.Test.YtioicmialbimfaaSxRatePart
namespace Go.Proofs.Ytioicmialbimfaa.S
open Go.RowKit Go.Proofs.YtioicmialbimfaaW.PrintWords Go.Proofs.YtioicmialbimfaaW.PrintLast Go.Proofs.YtioicmialbimfaaW.PrintMore
attribute [local go_sem] max2_int min2_int max_two min_two max_three min_three max_four min_four   -- for this text's walks alone
attribute [local go_sem] Go.Proofs.Ytioicmialbimfaa.XWalk.cell2
set_option linter.unusedVariables false
set_option linter.unusedSimpArgs false

/-! ### lombardlaw03_RateParts: function 8 -/
def lombardlaw03_RateParts.f (k : Nat) (a0 : Int) (a1 : Int) (a2 : Int) : Option (Bool) := (lombardlaw03_alive.f k).bind fun t232 => (if t232 = true then (if (wrap64 ((wrap64 (a2)) + 2)) = 0 then (none) else ((rate_May.f a0).bind fun t233 => (if t233 = true then ((rate_Part.f k a0 (Int.tmod (wrap64 (a1)) (wrap64 ((wrap64 (a2)) + 2))) (wrap64 ((wrap64 (a2)) + 1))).bind fun bt234 => ((rate_Part.f k a0 (wrap64 ((wrap64 ((wrap64 (a2)) + 1)) - (Int.tmod (wrap64 (a1)) (wrap64 ((wrap64 (a2)) + 2))))) (wrap64 ((wrap64 (a2)) + 1))).bind fun bt236 => ((rate_Part.f k a0 (wrap64 ((wrap64 (a2)) + 1)) (wrap64 ((wrap64 (a2)) + 1))).bind fun bt238 => ((rate_Part.f k a0 0 (wrap64 ((wrap64 (a2)) + 1))).bind fun bt240 => (if bt234.2 = 0 then (if bt236.2 = 0 then (if bt238.2 = 0 then (if bt240.2 = 0 then (if bt238.1 = a0 then (if bt240.1 = 0 then (if (wrap64 ((wrap64 (bt234.1 + bt236.1)) - a0)) ≥ (-1) then (some (decide ((wrap64 ((wrap64 (bt234.1 + bt236.1)) - a0)) ≤ 1))) else (some false)) else (some false)) else (some false)) else (some false)) else (some false)) else (some false)) else (some false)))))) else (some true)))) else (some false))
theorem lombardlaw03_RateParts.mono : ∀ a0 a1 a2 k, LeO (lombardlaw03_RateParts.f k a0 a1 a2) (lombardlaw03_RateParts.f (k + 1) a0 a1 a2) := by
  intro a0 a1 a2 k
  unfold lombardlaw03_RateParts.f
  repeat' first
      | (with_reducible exact lombardlaw03_alive.mono _)
      | (with_reducible exact rate_Part.mono _ _ _ _)
      | (with_reducible exact LeO.refl _)
      | (with_reducible exact LeO.none _)
      | (with_reducible refine LeO.ite ?_ ?_)
      | (with_reducible refine LeO.bind ?_ (fun _ => ?_))
      | exact lombardlaw03_alive.mono _
      | exact rate_Part.mono _ _ _ _
      | exact LeO.none _
      | refine LeO.ite ?_ ?_
      | refine LeO.bind ?_ (fun _ => ?_)
set_option maxHeartbeats 8000000 in
set_option maxRecDepth 100000 in
theorem lombardlaw03_RateParts.calls (k : Nat) (a0 : Int) (a1 : Int) (a2 : Int) (r : Bool) (w : World) (h : lombardlaw03_RateParts.f k a0 a1 a2 = some r) :
    Calls Try.prog 8 #[.int .i64 a0, .int .u32 a1, .int .u32 a2] w fun e w' => e = .returned (.bool r) ∧ Below w.heap.size w w' := by
  have HB := Aside0.mk (Below.refl w.heap.size w)
  have H : ((lombardlaw03_alive.f k).bind fun t232 => (if t232 = true then (if (wrap64 ((wrap64 (a2)) + 2)) = 0 then (none) else ((rate_May.f a0).bind fun t233 => (if t233 = true then ((rate_Part.f k a0 (Int.tmod (wrap64 (a1)) (wrap64 ((wrap64 (a2)) + 2))) (wrap64 ((wrap64 (a2)) + 1))).bind fun bt234 => ((rate_Part.f k a0 (wrap64 ((wrap64 ((wrap64 (a2)) + 1)) - (Int.tmod (wrap64 (a1)) (wrap64 ((wrap64 (a2)) + 2))))) (wrap64 ((wrap64 (a2)) + 1))).bind fun bt236 => ((rate_Part.f k a0 (wrap64 ((wrap64 (a2)) + 1)) (wrap64 ((wrap64 (a2)) + 1))).bind fun bt238 => ((rate_Part.f k a0 0 (wrap64 ((wrap64 (a2)) + 1))).bind fun bt240 => (if bt234.2 = 0 then (if bt236.2 = 0 then (if bt238.2 = 0 then (if bt240.2 = 0 then (if bt238.1 = a0 then (if bt240.1 = 0 then (if (wrap64 ((wrap64 (bt234.1 + bt236.1)) - a0)) ≥ (-1) then (some (decide ((wrap64 ((wrap64 (bt234.1 + bt236.1)) - a0)) ≤ 1))) else (some false)) else (some false)) else (some false)) else (some false)) else (some false)) else (some false)) else (some false)))))) else (some true)))) else (some false))) = some r := h
  clear h
  replace H := Option.bind_eq_some_iff.mp H
  obtain ⟨t232, A40, H⟩ := H
  replace H : (if t232 = true then (if (wrap64 ((wrap64 (a2)) + 2)) = 0 then (none) else ((rate_May.f a0).bind fun t233 => (if t233 = true then ((rate_Part.f k a0 (Int.tmod (wrap64 (a1)) (wrap64 ((wrap64 (a2)) + 2))) (wrap64 ((wrap64 (a2)) + 1))).bind fun bt234 => ((rate_Part.f k a0 (wrap64 ((wrap64 ((wrap64 (a2)) + 1)) - (Int.tmod (wrap64 (a1)) (wrap64 ((wrap64 (a2)) + 2))))) (wrap64 ((wrap64 (a2)) + 1))).bind fun bt236 => ((rate_Part.f k a0 (wrap64 ((wrap64 (a2)) + 1)) (wrap64 ((wrap64 (a2)) + 1))).bind fun bt238 => ((rate_Part.f k a0 0 (wrap64 ((wrap64 (a2)) + 1))).bind fun bt240 => (if bt234.2 = 0 then (if bt236.2 = 0 then (if bt238.2 = 0 then (if bt240.2 = 0 then (if bt238.1 = a0 then (if bt240.1 = 0 then (if (wrap64 ((wrap64 (bt234.1 + bt236.1)) - a0)) ≥ (-1) then (some (decide ((wrap64 ((wrap64 (bt234.1 + bt236.1)) - a0)) ≤ 1))) else (some false)) else (some false)) else (some false)) else (some false)) else (some false)) else (some false)) else (some false)))))) else (some true)))) else (some false)) = some r := H
  have A4 := Aside0.mk A40
  clear A40
  by_cases c5 : t232 = true
  · subst c5
    have H1 : (if (wrap64 ((wrap64 (a2)) + 2)) = 0 then (none) else ((rate_May.f a0).bind fun t233 => (if t233 = true then ((rate_Part.f k a0 (Int.tmod (wrap64 (a1)) (wrap64 ((wrap64 (a2)) + 2))) (wrap64 ((wrap64 (a2)) + 1))).bind fun bt234 => ((rate_Part.f k a0 (wrap64 ((wrap64 ((wrap64 (a2)) + 1)) - (Int.tmod (wrap64 (a1)) (wrap64 ((wrap64 (a2)) + 2))))) (wrap64 ((wrap64 (a2)) + 1))).bind fun bt236 => ((rate_Part.f k a0 (wrap64 ((wrap64 (a2)) + 1)) (wrap64 ((wrap64 (a2)) + 1))).bind fun bt238 => ((rate_Part.f k a0 0 (wrap64 ((wrap64 (a2)) + 1))).bind fun bt240 => (if bt234.2 = 0 then (if bt236.2 = 0 then (if bt238.2 = 0 then (if bt240.2 = 0 then (if bt238.1 = a0 then (if bt240.1 = 0 then (if (wrap64 ((wrap64 (bt234.1 + bt236.1)) - a0)) ≥ (-1) then (some (decide ((wrap64 ((wrap64 (bt234.1 + bt236.1)) - a0)) ≤ 1))) else (some false)) else (some false)) else (some false)) else (some false)) else (some false)) else (some false)) else (some false)))))) else (some true)))) = some r := by rw [if_pos rfl] at H; exact H
    clear H
    have H := H1
    clear H1
    by_cases c6 : (wrap64 ((wrap64 (a2)) + 2)) = 0
    · rw [if_pos c6] at H
      exact absurd H (by simp)
    · rw [if_neg c6] at H
      have c6b0 : ((wrap64 ((wrap64 (a2)) + 2)) == 0) = false := beq_eq_false_iff_ne.mpr c6
      have c6b1 : ((wrap64 ((wrap64 (a2)) + 2)) != 0) = true := bne_iff_ne.mpr c6
      replace H := Option.bind_eq_some_iff.mp H
      obtain ⟨t233, A70, H⟩ := H
      replace H : (if t233 = true then ((rate_Part.f k a0 (Int.tmod (wrap64 (a1)) (wrap64 ((wrap64 (a2)) + 2))) (wrap64 ((wrap64 (a2)) + 1))).bind fun bt234 => ((rate_Part.f k a0 (wrap64 ((wrap64 ((wrap64 (a2)) + 1)) - (Int.tmod (wrap64 (a1)) (wrap64 ((wrap64 (a2)) + 2))))) (wrap64 ((wrap64 (a2)) + 1))).bind fun bt236 => ((rate_Part.f k a0 (wrap64 ((wrap64 (a2)) + 1)) (wrap64 ((wrap64 (a2)) + 1))).bind fun bt238 => ((rate_Part.f k a0 0 (wrap64 ((wrap64 (a2)) + 1))).bind fun bt240 => (if bt234.2 = 0 then (if bt236.2 = 0 then (if bt238.2 = 0 then (if bt240.2 = 0 then (if bt238.1 = a0 then (if bt240.1 = 0 then (if (wrap64 ((wrap64 (bt234.1 + bt236.1)) - a0)) ≥ (-1) then (some (decide ((wrap64 ((wrap64 (bt234.1 + bt236.1)) - a0)) ≤ 1))) else (some false)) else (some false)) else (some false)) else (some false)) else (some false)) else (some false)) else (some false)))))) else (some true)) = some r := H
      have A7 := Aside0.mk A70
      clear A70
      by_cases c8 : t233 = true
      · subst c8
        have H1 : ((rate_Part.f k a0 (Int.tmod (wrap64 (a1)) (wrap64 ((wrap64 (a2)) + 2))) (wrap64 ((wrap64 (a2)) + 1))).bind fun bt234 => ((rate_Part.f k a0 (wrap64 ((wrap64 ((wrap64 (a2)) + 1)) - (Int.tmod (wrap64 (a1)) (wrap64 ((wrap64 (a2)) + 2))))) (wrap64 ((wrap64 (a2)) + 1))).bind fun bt236 => ((rate_Part.f k a0 (wrap64 ((wrap64 (a2)) + 1)) (wrap64 ((wrap64 (a2)) + 1))).bind fun bt238 => ((rate_Part.f k a0 0 (wrap64 ((wrap64 (a2)) + 1))).bind fun bt240 => (if bt234.2 = 0 then (if bt236.2 = 0 then (if bt238.2 = 0 then (if bt240.2 = 0 then (if bt238.1 = a0 then (if bt240.1 = 0 then (if (wrap64 ((wrap64 (bt234.1 + bt236.1)) - a0)) ≥ (-1) then (some (decide ((wrap64 ((wrap64 (bt234.1 + bt236.1)) - a0)) ≤ 1))) else (some false)) else (some false)) else (some false)) else (some false)) else (some false)) else (some false)) else (some false)))))) = some r := by rw [if_pos rfl] at H; exact H
        clear H
        have H := H1
        clear H1
        replace H := Option.bind_eq_some_iff.mp H
        obtain ⟨⟨t234, t235⟩, A90, H⟩ := H
        replace H : ((rate_Part.f k a0 (wrap64 ((wrap64 ((wrap64 (a2)) + 1)) - (Int.tmod (wrap64 (a1)) (wrap64 ((wrap64 (a2)) + 2))))) (wrap64 ((wrap64 (a2)) + 1))).bind fun bt236 => ((rate_Part.f k a0 (wrap64 ((wrap64 (a2)) + 1)) (wrap64 ((wrap64 (a2)) + 1))).bind fun bt238 => ((rate_Part.f k a0 0 (wrap64 ((wrap64 (a2)) + 1))).bind fun bt240 => (if t235 = 0 then (if bt236.2 = 0 then (if bt238.2 = 0 then (if bt240.2 = 0 then (if bt238.1 = a0 then (if bt240.1 = 0 then (if (wrap64 ((wrap64 (t234 + bt236.1)) - a0)) ≥ (-1) then (some (decide ((wrap64 ((wrap64 (t234 + bt236.1)) - a0)) ≤ 1))) else (some false)) else (some false)) else (some false)) else (some false)) else (some false)) else (some false)) else (some false))))) = some r := H
        have A9 := Aside0.mk A90
        clear A90
        replace H := Option.bind_eq_some_iff.mp H
        obtain ⟨⟨t236, t237⟩, A100, H⟩ := H
        replace H : ((rate_Part.f k a0 (wrap64 ((wrap64 (a2)) + 1)) (wrap64 ((wrap64 (a2)) + 1))).bind fun bt238 => ((rate_Part.f k a0 0 (wrap64 ((wrap64 (a2)) + 1))).bind fun bt240 => (if t235 = 0 then (if t237 = 0 then (if bt238.2 = 0 then (if bt240.2 = 0 then (if bt238.1 = a0 then (if bt240.1 = 0 then (if (wrap64 ((wrap64 (t234 + t236)) - a0)) ≥ (-1) then (some (decide ((wrap64 ((wrap64 (t234 + t236)) - a0)) ≤ 1))) else (some false)) else (some false)) else (some false)) else (some false)) else (some false)) else (some false)) else (some false)))) = some r := H
        have A10 := Aside0.mk A100
        clear A100
        replace H := Option.bind_eq_some_iff.mp H
        obtain ⟨⟨t238, t239⟩, A110, H⟩ := H
        replace H : ((rate_Part.f k a0 0 (wrap64 ((wrap64 (a2)) + 1))).bind fun bt240 => (if t235 = 0 then (if t237 = 0 then (if t239 = 0 then (if bt240.2 = 0 then (if t238 = a0 then (if bt240.1 = 0 then (if (wrap64 ((wrap64 (t234 + t236)) - a0)) ≥ (-1) then (some (decide ((wrap64 ((wrap64 (t234 + t236)) - a0)) ≤ 1))) else (some false)) else (some false)) else (some false)) else (some false)) else (some false)) else (some false)) else (some false))) = some r := H
        have A11 := Aside0.mk A110
        clear A110
        replace H := Option.bind_eq_some_iff.mp H
        obtain ⟨⟨t240, t241⟩, A120, H⟩ := H
        replace H : (if t235 = 0 then (if t237 = 0 then (if t239 = 0 then (if t241 = 0 then (if t238 = a0 then (if t240 = 0 then (if (wrap64 ((wrap64 (t234 + t236)) - a0)) ≥ (-1) then (some (decide ((wrap64 ((wrap64 (t234 + t236)) - a0)) ≤ 1))) else (some false)) else (some false)) else (some false)) else (some false)) else (some false)) else (some false)) else (some false)) = some r := H
        have A12 := Aside0.mk A120
        clear A120
        have HC13 := Aside0.mk H
        clear H
        go_enter Try.func8, Try.ntmps8
        go_upto_region 10 with (first | (go_at_call 14; (with_reducible refine (lombardlaw03_alive.calls k  true _ A4.out).mono ?_); rintro e w14 ⟨rfl, hb⟩; have n0_ := Aside0.mk (below_step (by repeat (first | (with_reducible first | exact HB.out | apply below_alloc | apply pw_below_drewN | apply below_drew1) | exact HB.out)) hb); clear HB; have HB := n0_; clear n0_; (try clear hb); (try clear hb2); (try clear hk); (try clear hi)) | (go_at_call 21; (with_reducible refine (rate_May.calls a0 true _ A7.out).mono ?_); rintro e w' ⟨rfl, ⟨nd, rfl⟩⟩; (try first | exact ⟨rfl, _, World.drewN_drewN _ _ _⟩ | exact ⟨rfl, _, Eq.trans (World.drewN_drewN _ _ _) (congrArg (World.drewN _) (Nat.add_assoc _ _ _))⟩)) | (go_at_call 26; (with_reducible refine (rate_Part.calls k a0 (Int.tmod (wrap64 (a1)) (wrap64 ((wrap64 (a2)) + 2))) (wrap64 ((wrap64 (a2)) + 1)) t234 t235 _ A9.out).mono ?_); rintro e w15 ⟨rfl, hb⟩; have n0_ := Aside0.mk (below_step (by repeat (first | (with_reducible first | exact HB.out | apply below_alloc | apply pw_below_drewN | apply below_drew1) | exact HB.out)) hb); clear HB; have HB := n0_; clear n0_; (try clear hb); (try clear hb2); (try clear hk); (try clear hi)) | (go_at_call 26; (with_reducible refine (rate_Part.calls k a0 (wrap64 ((wrap64 ((wrap64 (a2)) + 1)) - (Int.tmod (wrap64 (a1)) (wrap64 ((wrap64 (a2)) + 2))))) (wrap64 ((wrap64 (a2)) + 1)) t236 t237 _ A10.out).mono ?_); rintro e w16 ⟨rfl, hb⟩; have n0_ := Aside0.mk (below_step (by repeat (first | (with_reducible first | exact HB.out | apply below_alloc | apply pw_below_drewN | apply below_drew1) | exact HB.out)) hb); clear HB; have HB := n0_; clear n0_; (try clear hb); (try clear hb2); (try clear hk); (try clear hi)) | (go_at_call 26; (with_reducible refine (rate_Part.calls k a0 (wrap64 ((wrap64 (a2)) + 1)) (wrap64 ((wrap64 (a2)) + 1)) t238 t239 _ A11.out).mono ?_); rintro e w17 ⟨rfl, hb⟩; have n0_ := Aside0.mk (below_step (by repeat (first | (with_reducible first | exact HB.out | apply below_alloc | apply pw_below_drewN | apply below_drew1) | exact HB.out)) hb); clear HB; have HB := n0_; clear n0_; (try clear hb); (try clear hb2); (try clear hk); (try clear hi)) | (go_at_call 26; (with_reducible refine (rate_Part.calls k a0 0 (wrap64 ((wrap64 (a2)) + 1)) t240 t241 _ A12.out).mono ?_); rintro e w18 ⟨rfl, hb⟩; have n0_ := Aside0.mk (below_step (by repeat (first | (with_reducible first | exact HB.out | apply below_alloc | apply pw_below_drewN | apply below_drew1) | exact HB.out)) hb); clear HB; have HB := n0_; clear n0_; (try clear hb); (try clear hb2); (try clear hk); (try clear hi)))
        repeat (go_quiet (first | (go_at_call 14; (with_reducible refine (lombardlaw03_alive.calls k  true _ A4.out).mono ?_); rintro e w14 ⟨rfl, hb⟩; have n0_ := Aside0.mk (below_step (by repeat (first | (with_reducible first | exact HB.out | apply below_alloc | apply pw_below_drewN | apply below_drew1) | exact HB.out)) hb); clear HB; have HB := n0_; clear n0_; (try clear hb); (try clear hb2); (try clear hk); (try clear hi)) | (go_at_call 21; (with_reducible refine (rate_May.calls a0 true _ A7.out).mono ?_); rintro e w' ⟨rfl, ⟨nd, rfl⟩⟩; (try first | exact ⟨rfl, _, World.drewN_drewN _ _ _⟩ | exact ⟨rfl, _, Eq.trans (World.drewN_drewN _ _ _) (congrArg (World.drewN _) (Nat.add_assoc _ _ _))⟩)) | (go_at_call 26; (with_reducible refine (rate_Part.calls k a0 (Int.tmod (wrap64 (a1)) (wrap64 ((wrap64 (a2)) + 2))) (wrap64 ((wrap64 (a2)) + 1)) t234 t235 _ A9.out).mono ?_); rintro e w15 ⟨rfl, hb⟩; have n0_ := Aside0.mk (below_step (by repeat (first | (with_reducible first | exact HB.out | apply below_alloc | apply pw_below_drewN | apply below_drew1) | exact HB.out)) hb); clear HB; have HB := n0_; clear n0_; (try clear hb); (try clear hb2); (try clear hk); (try clear hi)) | (go_at_call 26; (with_reducible refine (rate_Part.calls k a0 (wrap64 ((wrap64 ((wrap64 (a2)) + 1)) - (Int.tmod (wrap64 (a1)) (wrap64 ((wrap64 (a2)) + 2))))) (wrap64 ((wrap64 (a2)) + 1)) t236 t237 _ A10.out).mono ?_); rintro e w16 ⟨rfl, hb⟩; have n0_ := Aside0.mk (below_step (by repeat (first | (with_reducible first | exact HB.out | apply below_alloc | apply pw_below_drewN | apply below_drew1) | exact HB.out)) hb); clear HB; have HB := n0_; clear n0_; (try clear hb); (try clear hb2); (try clear hk); (try clear hi)) | (go_at_call 26; (with_reducible refine (rate_Part.calls k a0 (wrap64 ((wrap64 (a2)) + 1)) (wrap64 ((wrap64 (a2)) + 1)) t238 t239 _ A11.out).mono ?_); rintro e w17 ⟨rfl, hb⟩; have n0_ := Aside0.mk (below_step (by repeat (first | (with_reducible first | exact HB.out | apply below_alloc | apply pw_below_drewN | apply below_drew1) | exact HB.out)) hb); clear HB; have HB := n0_; clear n0_; (try clear hb); (try clear hb2); (try clear hk); (try clear hi)) | (go_at_call 26; (with_reducible refine (rate_Part.calls k a0 0 (wrap64 ((wrap64 (a2)) + 1)) t240 t241 _ A12.out).mono ?_); rintro e w18 ⟨rfl, hb⟩; have n0_ := Aside0.mk (below_step (by repeat (first | (with_reducible first | exact HB.out | apply below_alloc | apply pw_below_drewN | apply below_drew1) | exact HB.out)) hb); clear HB; have HB := n0_; clear n0_; (try clear hb); (try clear hb2); (try clear hk); (try clear hi))); go_upto_region 10 with (first | (go_at_call 14; (with_reducible refine (lombardlaw03_alive.calls k  true _ A4.out).mono ?_); rintro e w14 ⟨rfl, hb⟩; have n0_ := Aside0.mk (below_step (by repeat (first | (with_reducible first | exact HB.out | apply below_alloc | apply pw_below_drewN | apply below_drew1) | exact HB.out)) hb); clear HB; have HB := n0_; clear n0_; (try clear hb); (try clear hb2); (try clear hk); (try clear hi)) | (go_at_call 21; (with_reducible refine (rate_May.calls a0 true _ A7.out).mono ?_); rintro e w' ⟨rfl, ⟨nd, rfl⟩⟩; (try first | exact ⟨rfl, _, World.drewN_drewN _ _ _⟩ | exact ⟨rfl, _, Eq.trans (World.drewN_drewN _ _ _) (congrArg (World.drewN _) (Nat.add_assoc _ _ _))⟩)) | (go_at_call 26; (with_reducible refine (rate_Part.calls k a0 (Int.tmod (wrap64 (a1)) (wrap64 ((wrap64 (a2)) + 2))) (wrap64 ((wrap64 (a2)) + 1)) t234 t235 _ A9.out).mono ?_); rintro e w15 ⟨rfl, hb⟩; have n0_ := Aside0.mk (below_step (by repeat (first | (with_reducible first | exact HB.out | apply below_alloc | apply pw_below_drewN | apply below_drew1) | exact HB.out)) hb); clear HB; have HB := n0_; clear n0_; (try clear hb); (try clear hb2); (try clear hk); (try clear hi)) | (go_at_call 26; (with_reducible refine (rate_Part.calls k a0 (wrap64 ((wrap64 ((wrap64 (a2)) + 1)) - (Int.tmod (wrap64 (a1)) (wrap64 ((wrap64 (a2)) + 2))))) (wrap64 ((wrap64 (a2)) + 1)) t236 t237 _ A10.out).mono ?_); rintro e w16 ⟨rfl, hb⟩; have n0_ := Aside0.mk (below_step (by repeat (first | (with_reducible first | exact HB.out | apply below_alloc | apply pw_below_drewN | apply below_drew1) | exact HB.out)) hb); clear HB; have HB := n0_; clear n0_; (try clear hb); (try clear hb2); (try clear hk); (try clear hi)) | (go_at_call 26; (with_reducible refine (rate_Part.calls k a0 (wrap64 ((wrap64 (a2)) + 1)) (wrap64 ((wrap64 (a2)) + 1)) t238 t239 _ A11.out).mono ?_); rintro e w17 ⟨rfl, hb⟩; have n0_ := Aside0.mk (below_step (by repeat (first | (with_reducible first | exact HB.out | apply below_alloc | apply pw_below_drewN | apply below_drew1) | exact HB.out)) hb); clear HB; have HB := n0_; clear n0_; (try clear hb); (try clear hb2); (try clear hk); (try clear hi)) | (go_at_call 26; (with_reducible refine (rate_Part.calls k a0 0 (wrap64 ((wrap64 (a2)) + 1)) t240 t241 _ A12.out).mono ?_); rintro e w18 ⟨rfl, hb⟩; have n0_ := Aside0.mk (below_step (by repeat (first | (with_reducible first | exact HB.out | apply below_alloc | apply pw_below_drewN | apply below_drew1) | exact HB.out)) hb); clear HB; have HB := n0_; clear n0_; (try clear hb); (try clear hb2); (try clear hk); (try clear hi))))
        have H := HC13.out
        clear HC13
        by_cases c19 : t235 = 0
        · rw [if_pos c19] at H
          have c19b0 : (t235 == 0) = true := beq_iff_eq.mpr c19
          have c19b1 : (t235 != 0) = false := bne_eq_false_iff_eq.mpr c19
          clear c19
          by_cases c20 : t237 = 0
          · rw [if_pos c20] at H
            have c20b0 : (t237 == 0) = true := beq_iff_eq.mpr c20
            have c20b1 : (t237 != 0) = false := bne_eq_false_iff_eq.mpr c20
            clear c20
            by_cases c21 : t239 = 0
            · rw [if_pos c21] at H
              have c21b0 : (t239 == 0) = true := beq_iff_eq.mpr c21
              have c21b1 : (t239 != 0) = false := bne_eq_false_iff_eq.mpr c21
              clear c21
              by_cases c22 : t241 = 0
              · rw [if_pos c22] at H
                have c22b0 : (t241 == 0) = true := beq_iff_eq.mpr c22
                have c22b1 : (t241 != 0) = false := bne_eq_false_iff_eq.mpr c22
                clear c22
                by_cases c23 : t238 = a0
                · rw [if_pos c23] at H
                  have c23b0 : (t238 == a0) = true := beq_iff_eq.mpr c23
                  have c23b1 : (t238 != a0) = false := bne_eq_false_iff_eq.mpr c23
                  clear c23
                  by_cases c24 : t240 = 0
                  · rw [if_pos c24] at H
                    have c24b0 : (t240 == 0) = true := beq_iff_eq.mpr c24
                    have c24b1 : (t240 != 0) = false := bne_eq_false_iff_eq.mpr c24
                    clear c24
                    by_cases c25 : (wrap64 ((wrap64 (t234 + t236)) - a0)) ≥ (-1)
                    · rw [if_pos c25] at H
                      have c25b0 : decide ((-1) ≤ (wrap64 ((wrap64 (t234 + t236)) - a0))) = true := decide_eq_true c25
                      clear c25
                      obtain rfl := Option.some.inj H
                      go_wp2
                      repeat (go_quiet (fail); try go_wp2)
                      go_ret
                      exact ⟨by first | rfl | (simp [errW_none, errW_some] <;> rfl) | (simp [*, errW_none, errW_some] <;> rfl), by repeat (first | (with_reducible first | exact HB.out | apply below_alloc | apply pw_below_drewN | apply below_drew1) | exact HB.out)⟩
                    · rw [if_neg c25] at H
                      have c25b0 : decide ((-1) ≤ (wrap64 ((wrap64 (t234 + t236)) - a0))) = false := decide_eq_false c25
                      clear c25
                      obtain rfl := Option.some.inj H
                      go_wp2
                      repeat (go_quiet (fail); try go_wp2)
                      go_ret
                      exact ⟨by first | rfl | (simp [errW_none, errW_some] <;> rfl) | (simp [*, errW_none, errW_some] <;> rfl), by repeat (first | (with_reducible first | exact HB.out | apply below_alloc | apply pw_below_drewN | apply below_drew1) | exact HB.out)⟩
                  · rw [if_neg c24] at H
                    have c24b0 : (t240 == 0) = false := beq_eq_false_iff_ne.mpr c24
                    have c24b1 : (t240 != 0) = true := bne_iff_ne.mpr c24
                    obtain rfl := Option.some.inj H
                    go_wp2
                    repeat (go_quiet (fail); try go_wp2)
                    go_ret
                    exact ⟨by first | rfl | (simp [errW_none, errW_some] <;> rfl) | (simp [*, errW_none, errW_some] <;> rfl), by repeat (first | (with_reducible first | exact HB.out | apply below_alloc | apply pw_below_drewN | apply below_drew1) | exact HB.out)⟩
                · rw [if_neg c23] at H
                  have c23b0 : (t238 == a0) = false := beq_eq_false_iff_ne.mpr c23
                  have c23b1 : (t238 != a0) = true := bne_iff_ne.mpr c23
                  obtain rfl := Option.some.inj H
                  go_wp2
                  repeat (go_quiet (fail); try go_wp2)
                  go_ret
                  exact ⟨by first | rfl | (simp [errW_none, errW_some] <;> rfl) | (simp [*, errW_none, errW_some] <;> rfl), by repeat (first | (with_reducible first | exact HB.out | apply below_alloc | apply pw_below_drewN | apply below_drew1) | exact HB.out)⟩
              · rw [if_neg c22] at H
                have c22b0 : (t241 == 0) = false := beq_eq_false_iff_ne.mpr c22
                have c22b1 : (t241 != 0) = true := bne_iff_ne.mpr c22
                obtain rfl := Option.some.inj H
                go_wp2
                repeat (go_quiet (fail); try go_wp2)
                go_ret
                exact ⟨by first | rfl | (simp [errW_none, errW_some] <;> rfl) | (simp [*, errW_none, errW_some] <;> rfl), by repeat (first | (with_reducible first | exact HB.out | apply below_alloc | apply pw_below_drewN | apply below_drew1) | exact HB.out)⟩
            · rw [if_neg c21] at H
              have c21b0 : (t239 == 0) = false := beq_eq_false_iff_ne.mpr c21
              have c21b1 : (t239 != 0) = true := bne_iff_ne.mpr c21
              obtain rfl := Option.some.inj H
              go_wp2
              repeat (go_quiet (fail); try go_wp2)
              go_ret
              exact ⟨by first | rfl | (simp [errW_none, errW_some] <;> rfl) | (simp [*, errW_none, errW_some] <;> rfl), by repeat (first | (with_reducible first | exact HB.out | apply below_alloc | apply pw_below_drewN | apply below_drew1) | exact HB.out)⟩
          · rw [if_neg c20] at H
            have c20b0 : (t237 == 0) = false := beq_eq_false_iff_ne.mpr c20
            have c20b1 : (t237 != 0) = true := bne_iff_ne.mpr c20
            obtain rfl := Option.some.inj H
            go_wp2
            repeat (go_quiet (fail); try go_wp2)
            go_ret
            exact ⟨by first | rfl | (simp [errW_none, errW_some] <;> rfl) | (simp [*, errW_none, errW_some] <;> rfl), by repeat (first | (with_reducible first | exact HB.out | apply below_alloc | apply pw_below_drewN | apply below_drew1) | exact HB.out)⟩
        · rw [if_neg c19] at H
          have c19b0 : (t235 == 0) = false := beq_eq_false_iff_ne.mpr c19
          have c19b1 : (t235 != 0) = true := bne_iff_ne.mpr c19
          obtain rfl := Option.some.inj H
          go_wp2
          repeat (go_quiet (fail); try go_wp2)
          go_ret
          exact ⟨by first | rfl | (simp [errW_none, errW_some] <;> rfl) | (simp [*, errW_none, errW_some] <;> rfl), by repeat (first | (with_reducible first | exact HB.out | apply below_alloc | apply pw_below_drewN | apply below_drew1) | exact HB.out)⟩
      · replace c8 := Bool.eq_false_iff.mpr c8
        subst c8
        have H1 : (some true) = some r := by rw [if_neg (show ¬ (false = true) by decide)] at H; exact H
        clear H
        have H := H1
        clear H1
        obtain rfl := Option.some.inj H
        go_enter Try.func8, Try.ntmps8
        go_wp2_with (first | (go_at_call 14; (with_reducible refine (lombardlaw03_alive.calls k  true _ A4.out).mono ?_); rintro e w26 ⟨rfl, hb⟩; have n0_ := Aside0.mk (below_step (by repeat (first | (with_reducible first | exact HB.out | apply below_alloc | apply pw_below_drewN | apply below_drew1) | exact HB.out)) hb); clear HB; have HB := n0_; clear n0_; (try clear hb); (try clear hb2); (try clear hk); (try clear hi)) | (go_at_call 21; (with_reducible refine (rate_May.calls a0 false _ A7.out).mono ?_); rintro e w' ⟨rfl, ⟨nd, rfl⟩⟩; (try first | exact ⟨rfl, _, World.drewN_drewN _ _ _⟩ | exact ⟨rfl, _, Eq.trans (World.drewN_drewN _ _ _) (congrArg (World.drewN _) (Nat.add_assoc _ _ _))⟩)))
        repeat (go_quiet (first | (go_at_call 14; (with_reducible refine (lombardlaw03_alive.calls k  true _ A4.out).mono ?_); rintro e w26 ⟨rfl, hb⟩; have n0_ := Aside0.mk (below_step (by repeat (first | (with_reducible first | exact HB.out | apply below_alloc | apply pw_below_drewN | apply below_drew1) | exact HB.out)) hb); clear HB; have HB := n0_; clear n0_; (try clear hb); (try clear hb2); (try clear hk); (try clear hi)) | (go_at_call 21; (with_reducible refine (rate_May.calls a0 false _ A7.out).mono ?_); rintro e w' ⟨rfl, ⟨nd, rfl⟩⟩; (try first | exact ⟨rfl, _, World.drewN_drewN _ _ _⟩ | exact ⟨rfl, _, Eq.trans (World.drewN_drewN _ _ _) (congrArg (World.drewN _) (Nat.add_assoc _ _ _))⟩))); try go_wp2_with (first | (go_at_call 14; (with_reducible refine (lombardlaw03_alive.calls k  true _ A4.out).mono ?_); rintro e w26 ⟨rfl, hb⟩; have n0_ := Aside0.mk (below_step (by repeat (first | (with_reducible first | exact HB.out | apply below_alloc | apply pw_below_drewN | apply below_drew1) | exact HB.out)) hb); clear HB; have HB := n0_; clear n0_; (try clear hb); (try clear hb2); (try clear hk); (try clear hi)) | (go_at_call 21; (with_reducible refine (rate_May.calls a0 false _ A7.out).mono ?_); rintro e w' ⟨rfl, ⟨nd, rfl⟩⟩; (try first | exact ⟨rfl, _, World.drewN_drewN _ _ _⟩ | exact ⟨rfl, _, Eq.trans (World.drewN_drewN _ _ _) (congrArg (World.drewN _) (Nat.add_assoc _ _ _))⟩))))
        go_ret
        exact ⟨by first | rfl | (simp [errW_none, errW_some] <;> rfl) | (simp [*, errW_none, errW_some] <;> rfl), by repeat (first | (with_reducible first | exact HB.out | apply below_alloc | apply pw_below_drewN | apply below_drew1) | exact HB.out)⟩
  · replace c5 := Bool.eq_false_iff.mpr c5
    subst c5
    have H1 : (some false) = some r := by rw [if_neg (show ¬ (false = true) by decide)] at H; exact H
    clear H
    have H := H1
    clear H1
    obtain rfl := Option.some.inj H
    go_enter Try.func8, Try.ntmps8
    go_wp2_with (first | (go_at_call 14; (with_reducible refine (lombardlaw03_alive.calls k  false _ A4.out).mono ?_); rintro e w27 ⟨rfl, hb⟩; have n0_ := Aside0.mk (below_step (by repeat (first | (with_reducible first | exact HB.out | apply below_alloc | apply pw_below_drewN | apply below_drew1) | exact HB.out)) hb); clear HB; have HB := n0_; clear n0_; (try clear hb); (try clear hb2); (try clear hk); (try clear hi)))
    repeat (go_quiet (first | (go_at_call 14; (with_reducible refine (lombardlaw03_alive.calls k  false _ A4.out).mono ?_); rintro e w27 ⟨rfl, hb⟩; have n0_ := Aside0.mk (below_step (by repeat (first | (with_reducible first | exact HB.out | apply below_alloc | apply pw_below_drewN | apply below_drew1) | exact HB.out)) hb); clear HB; have HB := n0_; clear n0_; (try clear hb); (try clear hb2); (try clear hk); (try clear hi))); try go_wp2_with (first | (go_at_call 14; (with_reducible refine (lombardlaw03_alive.calls k  false _ A4.out).mono ?_); rintro e w27 ⟨rfl, hb⟩; have n0_ := Aside0.mk (below_step (by repeat (first | (with_reducible first | exact HB.out | apply below_alloc | apply pw_below_drewN | apply below_drew1) | exact HB.out)) hb); clear HB; have HB := n0_; clear n0_; (try clear hb); (try clear hb2); (try clear hk); (try clear hi))))
    go_ret
    exact ⟨by first | rfl | (simp [errW_none, errW_some] <;> rfl) | (simp [*, errW_none, errW_some] <;> rfl), by repeat (first | (with_reducible first | exact HB.out | apply below_alloc | apply pw_below_drewN | apply below_drew1) | exact HB.out)⟩

/-- THE ONE PURE STATEMENT of lombardlaw03_RateParts: yours. -/
def lombardlaw03_RateParts.Pure : Prop := ∀ (a0 : Int) (a1 : Int) (a2 : Int), (Lit.int .i64 a0).wf = true → (Lit.int .u32 a1).wf = true → (Lit.int .u32 a2).wf = true → ∃ k, lombardlaw03_RateParts.f k a0 a1 a2 = some true
theorem lombardlaw03_RateParts.walk (P : lombardlaw03_RateParts.Pure) (a0 : Int) (a1 : Int) (a2 : Int) (w : World) (w0 : (Lit.int .i64 a0).wf = true) (w1 : (Lit.int .u32 a1).wf = true) (w2 : (Lit.int .u32 a2).wf = true) :
    Calls Try.prog 8 #[.int .i64 a0, .int .u32 a1, .int .u32 a2] w fun e w' => e = .returned (.bool true) ∧ Below w.heap.size w w' := by
  obtain ⟨k, h⟩ := P a0 a1 a2 w0 w1 w2
  refine (lombardlaw03_RateParts.calls k a0 a1 a2 true w h).mono ?_
  rintro e w' ⟨rfl, hd⟩
  exact ⟨rfl, hd⟩

end Go.Proofs.Ytioicmialbimfaa.S
