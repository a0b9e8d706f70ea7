/-
  WideRounds, over plain numbers: what is rounded to the nearer one is the one downwards, or one more; downwards it is the greatest one whose product is no greater.
  Conditions: none beyond the pure statement's.
-/
import Derived.Test.YtohbdjfabghagaaXNeg
import Derived.Test.YtohbdjfabghagaaSxLombardlaw02WideRounds
namespace Go.Proofs.Ytohbdjfabghagaa.Pure
set_option linter.unusedVariables false
set_option linter.unusedSimpArgs false
open Go.RowKit Go.Proofs.Ytohbdjfabghagaa.S Go.Proofs.Ytohbdjfabghagaa.XNum Go.Proofs.Ytohbdjfabghagaa.XWide Go.Proofs.Ytohbdjfabghagaa.Rnd Go.Proofs.Ytohbdjfabghagaa.WideAlive Go.Proofs.Ytohbdjfabghagaa.XNeg Go.Proofs.YtohbdjfabghagaaW.PrintWords Go.Proofs.YtohbdjfabghagaaW.PrintLast

/-- downwards: c times it is no greater than A, if c is above 0 (else no less), and one more is beyond -/
theorem floor_bd (A : Int) {c : Int} (hc : c ≠ 0) : (0 < c → rnd A c 0 * c ≤ A ∧ A < (rnd A c 0 + 1) * c) ∧ (c < 0 → A ≤ rnd A c 0 * c ∧ (rnd A c 0 + 1) * c < A) := by
  constructor
  · intro h
    rw [rnd_f h]
    obtain ⟨a, b, d⟩ := div_split A c h
    rw [Int.add_mul, Int.one_mul, Int.mul_comm]
    omega
  · intro h
    rw [rnd_f' h]
    obtain ⟨a, b, d⟩ := div_split (-A) (-c) (by omega)
    rw [Int.neg_mul] at a
    rw [Int.add_mul, Int.one_mul, Int.mul_comm]
    omega
theorem near_floor (A : Int) {c : Int} (hc : c ≠ 0) : rnd A c 1 = rnd A c 0 ∨ rnd A c 1 = rnd A c 0 + 1 := by
  rcases Int.lt_or_gt_of_ne hc with h | h
  · rw [rnd_n' h, rnd_f' h]
    unfold near
    split <;> omega
  · rw [rnd_n h, rnd_f h]
    unfold near
    split <;> omega
theorem whole (m : Int) : m / 18446744073709551616 * 18446744073709551616 + m % 18446744073709551616 = m := by omega

theorem rounds_j1 {a b c : Int} (ha : I64 a) (hb : I64 b) (hc : I64 c) (c0 : c ≠ 0) (h : I64 (rnd (a * b) c 0)) (k : Nat) (hk : 5 ≤ k) : lombardlaw02_WideRounds.j1 k a b c (rnd (a * b) c 0) false = some true := by
  obtain ⟨k, rfl⟩ : ∃ m, k = m + 1 := ⟨k - 1, by omega⟩
  obtain ⟨p, n⟩ := floor_bd (a * b) c0
  have hm := mul_i64 ha hb
  rw [lombardlaw02_WideRounds.j1, if_neg (by simp)]
  generalize rnd (a * b) c 0 = f at *
  have W : ∀ m : Int, U64 (m % 18446744073709551616) := fun m => ⟨by omega, by omega⟩
  rw [mul h hc, mul ha hb]
  simp only [Option.bind_some]
  rw [compare (W _) (W _) (by omega), whole, whole]
  simp only [Option.bind_some]
  by_cases d : f < 9223372036854775807
  · rw [if_pos d, w64 (n := f + 1) (by omega) (by omega), mul ⟨by omega, by omega⟩ hc]
    simp only [Option.bind_some]
    rw [compare (W _) (W _) (by omega), whole, whole]
    simp only [Option.bind_some]
    by_cases e : c > 0
    · obtain ⟨p0, p1⟩ := p e
      rw [if_pos e]
      have t1 : ord (f * c) (a * b) ≤ 0 := by
        unfold ord
        split
        · omega
        · rw [if_neg (by omega)]; omega
      have t2 : ord ((f + 1) * c) (a * b) > 0 := by
        unfold ord
        rw [if_neg (by omega), if_pos (by omega)]
        omega
      rw [if_pos t1, decide_eq_true t2]
    · obtain ⟨p0, p1⟩ := n (by omega)
      rw [if_neg e]
      have t1 : ord (f * c) (a * b) ≥ 0 := by
        unfold ord
        rw [if_neg (by omega)]
        split <;> omega
      have t2 : ord ((f + 1) * c) (a * b) < 0 := by
        unfold ord
        rw [if_pos (by omega)]
        omega
      rw [if_pos t1, decide_eq_true t2]
  · rw [if_neg d]
    by_cases e : c < 0
    · obtain ⟨p0, p1⟩ := n e
      rw [if_pos e, if_neg (by omega)]
      have t1 : ord (f * c) (a * b) ≥ 0 := by
        unfold ord
        rw [if_neg (by omega)]
        split <;> omega
      rw [if_pos t1]
      rfl
    · obtain ⟨p0, p1⟩ := p (by omega)
      rw [if_neg e, if_pos (by omega)]
      have t1 : ord (f * c) (a * b) ≤ 0 := by
        unfold ord
        split
        · omega
        · rw [if_neg (by omega)]; omega
      rw [if_pos t1]
      rfl

theorem WideRounds : lombardlaw02_WideRounds.Pure := by
  intro a b c ha hb hc
  rw [wf64] at ha hb hc
  refine ⟨100, ?_⟩
  unfold lombardlaw02_WideRounds.f
  rw [alive (by omega)]
  simp only [Option.bind_some, if_true]
  rw [mulDiv ha hb hc (by omega), mulDiv ha hb hc (by omega)]
  simp only [Option.bind_some]
  by_cases c0 : c = 0
  · rw [if_pos c0]
    subst c0
    rw [show mdiv (a * b) 0 1 = (0, 4) by unfold mdiv; simp, show mdiv (a * b) 0 0 = (0, 4) by unfold mdiv; simp]
    simp
  rw [if_neg c0]
  rcases mdiv_two (A := a * b) (way := 1) (.inr rfl) c0 with ⟨e, e0, e1⟩ | e <;> rw [e]
  · rcases mdiv_two (A := a * b) (way := 0) (.inl rfl) c0 with ⟨f, f0, f1⟩ | f <;> rw [f]
    · simp only [if_true, bne_self_eq_false]
      rw [lombardlaw02_WideRounds.j0, if_neg (by simp)]
      by_cases g : rnd (a * b) c 1 = rnd (a * b) c 0
      · rw [if_pos g]
        exact rounds_j1 ha hb hc c0 ⟨f0, f1⟩ _ (by omega)
      · rw [if_neg g]
        have i : rnd (a * b) c 1 = rnd (a * b) c 0 + 1 := by
          rcases near_floor (a * b) c0 with x | x
          · exact absurd x g
          · exact x
        rw [i] at e0 e1
        rw [i, w64 (by omega) (by omega), bne_self_eq_false]
        exact rounds_j1 ha hb hc c0 ⟨f0, f1⟩ _ (by omega)
    · simp only [if_true]
      rw [lombardlaw02_WideRounds.j0, if_pos (by decide), if_pos rfl]
      rfl
  · rw [if_neg (by decide), lombardlaw02_WideRounds.j0, if_pos rfl]
    simp only [show ((3 : Int) = 0) = False by simp, if_false, if_true]
    rcases mdiv_two (A := a * b) (way := 0) (.inl rfl) c0 with ⟨f, f0, f1⟩ | f <;> rw [f]
    · rfl
    · rfl
end Go.Proofs.Ytohbdjfabghagaa.Pure
