/-
  WideTurns, over plain numbers: to the nearer one a negative's quotient is the negative; downwards it is that, or one less.
  Conditions: none beyond the pure statement's.
-/
import Derived.Test.YtohbdjfabghagaaWideAlive
import Derived.Test.YtohbdjfabghagaaSxLombardlaw02WideTurns
namespace Go.Proofs.Ytohbdjfabghagaa.Pure
set_option linter.unusedVariables false
set_option linter.unusedSimpArgs false
open Go.RowKit Go.Proofs.Ytohbdjfabghagaa.S Go.Proofs.Ytohbdjfabghagaa.XNum Go.Proofs.Ytohbdjfabghagaa.XWide Go.Proofs.Ytohbdjfabghagaa.Rnd Go.Proofs.Ytohbdjfabghagaa.WideAlive Go.Proofs.YtohbdjfabghagaaW.PrintWords Go.Proofs.YtohbdjfabghagaaW.PrintLast

theorem WideTurns : lombardlaw02_WideTurns.Pure := by
  intro a b c ha hb hc
  rw [wf64] at ha hb hc
  refine ⟨100, ?_⟩
  unfold lombardlaw02_WideTurns.f
  rw [alive (by omega)]
  simp only [Option.bind_some, if_true]
  by_cases c1 : a = -9223372036854775808
  · rw [if_pos c1]
    simp only [lombardlaw02_WideTurns.j0, if_true]
  rw [if_neg c1]
  by_cases c2 : c = 0
  · rw [c2]
    simp only [lombardlaw02_WideTurns.j0, beq_self_eq_true, if_true]
  rw [show (c == 0) = false from beq_eq_false_iff_ne.2 c2]
  simp only [lombardlaw02_WideTurns.j0, Bool.false_eq_true, if_false]
  rw [w64 (n := -a) (by omega) (by omega), mulDiv ha hb hc (by omega), mulDiv (by constructor <;> omega) hb hc (by omega)]
  simp only [Option.bind_some]
  have J : ∀ k, 30 ≤ k → lombardlaw02_WideTurns.j1 (k + 1) a b c false = some true := by
    intro k hk
    simp only [lombardlaw02_WideTurns.j1, Bool.false_eq_true, if_false]
    rw [w64 (n := -a) (by omega) (by omega), mulDiv ha hb hc hk, mulDiv (by constructor <;> omega) hb hc hk]
    simp only [Option.bind_some]
    rw [Int.neg_mul]
    rcases mdiv_two (A := a * b) (way := 0) (.inl rfl) c2 with ⟨e, e0, e1⟩ | e <;> rw [e] <;> simp only
    · rcases mdiv_two (A := -(a * b)) (way := 0) (.inl rfl) c2 with ⟨f, f0, f1⟩ | f <;> rw [f] <;> simp only
      · rw [if_pos trivial, if_pos trivial]
        by_cases m : rnd (a * b) c 0 = -9223372036854775808
        · rw [if_pos m]
        · rw [if_neg m, w64 (n := -rnd (a * b) c 0) (by omega) (by omega)]
          rcases rnd_neg0 (a * b) c2 with n | n
          · rw [if_pos n]
          · rw [if_neg (by omega), w64 (by omega) (by omega), n]
            simp
      · simp
    · simp
  rw [Int.neg_mul]
  rcases mdiv_two (A := a * b) (way := 1) (.inr rfl) c2 with ⟨e, e0, e1⟩ | e <;> rw [e] <;> simp only
  · rcases mdiv_two (A := -(a * b)) (way := 1) (.inr rfl) c2 with ⟨f, f0, f1⟩ | f <;> rw [f] <;> simp only
    · rw [if_pos trivial, if_pos trivial, rnd_neg1 (a * b) c2]
      rw [rnd_neg1 (a * b) c2] at f0 f1
      rw [w64 (n := -rnd (a * b) c 1) (by omega) (by omega), bne_self_eq_false]
      exact J _ (by omega)
    · simp only [show ((3 : Int) = 0) = False by simp, if_true, if_false]
      exact J _ (by omega)
  · simp only [show ((3 : Int) = 0) = False by simp, if_false]
    exact J _ (by omega)
end Go.Proofs.Ytohbdjfabghagaa.Pure
