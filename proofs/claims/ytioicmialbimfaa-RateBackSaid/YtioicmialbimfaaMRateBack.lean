/- The statement RateBackSaid: for every input the law returns true, and each argument reads afterwards as it read before. Conditions: none. -/
import Derived.Test.YtioicmialbimfaaXWide
import Derived.Test.YtioicmialbimfaaSxRateInterest
import Derived.Test.YtioicmialbimfaaSxRateGrow
import Derived.Test.YtioicmialbimfaaSxRateDiscount
import Derived.Test.YtioicmialbimfaaSxRatePower
import Derived.Test.YtioicmialbimfaaSxRatePart
import Derived.Test.YtioicmialbimfaaSxLombardlaw03Alive
import Derived.Test.YtioicmialbimfaaSxLombardlaw03RateBack
import Derived.Test.YtioicmialbimfaaRows
import Derived.WalkKit
import Derived.ProofKit
import Derived.OpenShut
import Derived.ShutString
import Derived.ChangeOld
import Derived.Below
import Derived.SizedLaws
section
namespace Go.Proofs.Ytioicmialbimfaa.XMdiv
set_option linter.unusedVariables false
set_option linter.unusedSimpArgs false
open Go.RowKit Go.Proofs.Ytioicmialbimfaa.S Go.Proofs.Ytioicmialbimfaa.XNum Go.Proofs.Ytioicmialbimfaa.XBits Go.Proofs.Ytioicmialbimfaa.XWide Go.Proofs.Ytioicmialbimfaa.Rnd Go.Proofs.YtioicmialbimfaaW.PrintWords

theorem rnd_n {A b : Int} (hb : 0 < b) : rnd A b 1 = near A b := by
  unfold rnd
  rw [if_neg (c := (1 : Int) = 0) (by omega), if_neg (c := b < 0) (by omega)]
/-- to the nearer one, by a number above 0 -/
theorem mdiv_n {A b : Int} (hb : 0 < b) : mdiv A b 1 = if I64 (near A b) then (near A b, 0) else (0, 3) := by
  unfold mdiv
  rw [if_neg (c := (1 : Int) < 0 ∨ (1 : Int) ≥ 2) (by omega), if_neg (c := b = 0) (by omega), rnd_n hb]
theorem mdiv_in {A b : Int} (hb : 0 < b) (h : I64 (near A b)) : mdiv A b 1 = (near A b, 0) := by
  rw [mdiv_n hb, if_pos h]
theorem mdiv_i64 (A b way : Int) : I64 (mdiv A b way).1 := by
  unfold mdiv
  split
  · exact ⟨by decide, by decide⟩
  · split
    · exact ⟨by decide, by decide⟩
    · split
      · assumption
      · exact ⟨by decide, by decide⟩
theorem mdiv_err (A b way : Int) : (mdiv A b way).2 ≠ 0 → (mdiv A b way).1 = 0 := by
  unfold mdiv
  split
  · intro _; rfl
  · split
    · intro _; rfl
    · split
      · intro h; exact absurd rfl h
      · intro _; rfl
/-- of a number of 0 or more, by a greater one there is no more -/
theorem near_anti {A b c : Int} (hA : 0 ≤ A) (hb : 0 < b) (h : b ≤ c) : near A c ≤ near A b := by
  obtain ⟨a1, a2, a3⟩ := near_spec (A := A) hb
  obtain ⟨b1, b2, b3⟩ := near_spec (A := A) (b := c) (by omega)
  have n0 := near_nn (A := A) hb hA
  have m0 := near_nn (A := A) (b := c) (by omega) hA
  generalize near A b = N at *
  generalize near A c = M at *
  by_cases d : M ≤ N
  · exact d
  -- M ≥ N + 1: c M ≥ c (N + 1) ≥ b N + ..
  have e1 : c * (N + 1) ≤ c * M := Int.mul_le_mul_of_nonneg_left (by omega) (by omega)
  have e2 : b * N ≤ c * N := Int.mul_le_mul_of_nonneg_right h n0
  rw [Int.mul_add, Int.mul_one] at e1
  -- 2 c M ≤ 2 A + c, 2 A ≤ 2 b N + b
  have e3 : M = N + 1 := by
    by_cases f : M = N + 1
    · exact f
    · have : c * (N + 2) ≤ c * M := Int.mul_le_mul_of_nonneg_left (by omega) (by omega)
      rw [Int.mul_add] at this
      omega
  subst e3
  rw [Int.mul_add, Int.mul_one] at *
  by_cases g : b = c
  · subst g
    omega
  · omega
end Go.Proofs.Ytioicmialbimfaa.XMdiv
end

section
namespace Go.Proofs.Ytioicmialbimfaa.XRate
set_option linter.unusedVariables false
set_option linter.unusedSimpArgs false
open Go.RowKit Go.Proofs.Ytioicmialbimfaa.S Go.Proofs.Ytioicmialbimfaa.XNum Go.Proofs.Ytioicmialbimfaa.XBits Go.Proofs.Ytioicmialbimfaa.XWide Go.Proofs.Ytioicmialbimfaa.Rnd Go.Proofs.Ytioicmialbimfaa.XMdiv Go.Proofs.YtioicmialbimfaaW.PrintWords

/-- may a rate be? -/
def mayR (r : Int) : Prop := -990000000000 ≤ r ∧ r ≤ 10000000000000
instance (r : Int) : Decidable (mayR r) := inferInstanceAs (Decidable (_ ∧ _))
theorem may (r : Int) : rate_May.f r = some (decide (mayR r)) := by
  unfold rate_May.f
  by_cases c : mayR r
  · rw [decide_eq_true c]
    unfold mayR at c
    rw [if_pos (by omega), decide_eq_true (by omega)]
  · rw [decide_eq_false c]
    unfold mayR at c
    by_cases d : r ≥ -990000000000
    · rw [if_pos d, decide_eq_false (by omega)]
    · rw [if_neg d]

def interest (x r : Int) : Int × Int := if mayR r then mdiv (x * r) 1000000000000 1 else (0, 2)
def grow (x r : Int) : Int × Int := if mayR r then mdiv (x * (1000000000000 + r)) 1000000000000 1 else (0, 2)
def discount (x r : Int) : Int × Int := if mayR r then mdiv (x * 1000000000000) (1000000000000 + r) 1 else (0, 2)

theorem interest_f {x r : Int} (hx : I64 x) {k : Nat} (hk : 30 ≤ k) : rate_Interest.f k x r = some (interest x r) := by
  unfold rate_Interest.f rate_over_rate_yield.f rate_yield_terms.f
  rw [may]
  simp only [Option.bind_some]
  unfold interest
  by_cases c : mayR r
  · rw [decide_eq_true c, if_pos c]
    simp only [if_true]
    unfold mayR at c
    rw [mulDiv hx ⟨by omega, by omega⟩ ⟨by omega, by omega⟩ hk]
    simp only [Option.bind_some]
  · rw [decide_eq_false c, if_neg c]
    simp
theorem over_forth {x r : Int} (hx : I64 x) {k : Nat} (hk : 30 ≤ k) : rate_over_rate_forth.f k x r = some (grow x r) := by
  unfold rate_over_rate_forth.f rate_forth_terms.f
  rw [may]
  simp only [Option.bind_some]
  unfold grow
  by_cases c : mayR r
  · rw [decide_eq_true c, if_pos c]
    simp only [if_true]
    unfold mayR at c
    rw [w64 (by omega) (by omega), mulDiv hx ⟨by omega, by omega⟩ ⟨by omega, by omega⟩ hk]
    simp only [Option.bind_some]
  · rw [decide_eq_false c, if_neg c]
    simp
theorem grow_f {x r : Int} (hx : I64 x) {k : Nat} (hk : 30 ≤ k) : rate_Grow.f k x r = some (grow x r) := by
  unfold rate_Grow.f
  rw [over_forth hx hk]
  rfl
theorem discount_f {x r : Int} (hx : I64 x) {k : Nat} (hk : 30 ≤ k) : rate_Discount.f k x r = some (discount x r) := by
  unfold rate_Discount.f rate_over_rate_back.f rate_back_terms.f
  rw [may]
  simp only [Option.bind_some]
  unfold discount
  by_cases c : mayR r
  · rw [decide_eq_true c, if_pos c]
    simp only [if_true]
    unfold mayR at c
    rw [w64 (by omega) (by omega), mulDiv hx ⟨by omega, by omega⟩ ⟨by omega, by omega⟩ hk]
    simp only [Option.bind_some]
  · rw [decide_eq_false c, if_neg c]
    simp
theorem grow_i64 (x r : Int) : I64 (grow x r).1 := by
  unfold grow
  split
  · exact mdiv_i64 _ _ _
  · exact ⟨by omega, by omega⟩
theorem discount_i64 (x r : Int) : I64 (discount x r).1 := by
  unfold discount
  split
  · exact mdiv_i64 _ _ _
  · exact ⟨by omega, by omega⟩
theorem interest_i64 (x r : Int) : I64 (interest x r).1 := by
  unfold interest
  split
  · exact mdiv_i64 _ _ _
  · exact ⟨by omega, by omega⟩

/-- a part of a rate -/
def part (r o all : Int) : Int × Int := if o < 0 ∨ all ≤ 0 then (0, 2) else mdiv (r * o) all 1
theorem part_f {r o all : Int} (hr : I64 r) (ho : I64 o) (ha : I64 all) {k : Nat} (hk : 30 ≤ k) : rate_Part.f k r o all = some (part r o all) := by
  unfold rate_Part.f part
  by_cases c : o < 0
  · rw [if_pos c, if_pos (.inl c)]
  · rw [if_neg c]
    by_cases d : all ≤ 0
    · rw [if_pos d, if_pos (.inr d)]
    · rw [if_neg d, if_neg (by omega), mulDiv hr ho ha hk]
      rfl

/-- what an amount grows to in n periods, or the first error -/
def powers (r : Int) : Nat → Int × Int
  | 0 => (1000000000000, 0)
  | n + 1 => if (powers r n).2 = 0 then grow (powers r n).1 r else powers r n
theorem powers_i64 (r : Int) (n : Nat) : I64 (powers r n).1 := by
  induction n with
  | zero => exact ⟨by show (-9223372036854775808 : Int) ≤ 1000000000000; omega, by show (1000000000000 : Int) ≤ 9223372036854775807; omega⟩
  | succ n ih =>
    unfold powers
    split
    · exact grow_i64 _ _
    · exact ih
/-- an error stays -/
theorem powers_err (r : Int) {n : Nat} (h : (powers r n).2 ≠ 0) : ∀ m, powers r (n + m) = powers r n
  | 0 => rfl
  | m + 1 => by
    rw [← Nat.add_assoc, powers, powers_err r h m, if_neg h]
theorem power_l0 {r : Int} : ∀ (d j k : Nat), d ≤ 600 → d + 40 ≤ k → rate_Power.l0 k r d (powers r j).1 (powers r j).2 = some (powers r (j + d)) := by
  intro d
  induction d with
  | zero =>
    intro j k hd hk
    obtain ⟨k, rfl⟩ : ∃ m, k = m + 1 := ⟨k - 1, by omega⟩
    rw [rate_Power.l0, if_neg (by omega)]
    rfl
  | succ d ih =>
    intro j k hd hk
    obtain ⟨k, rfl⟩ : ∃ m, k = m + 1 := ⟨k - 1, by omega⟩
    rw [rate_Power.l0, if_pos (by omega)]
    by_cases c : (powers r j).2 = 0
    · rw [if_pos c, over_forth (powers_i64 r j) (by omega)]
      simp only [Option.bind_some]
      have e : grow (powers r j).1 r = powers r (j + 1) := by rw [powers, if_pos c]
      rw [e, w64 (by omega) (by omega), show ((d + 1 : Nat) : Int) - 1 = (d : Int) by omega, ih (j + 1) k (by omega) (by omega), show j + 1 + d = j + (d + 1) by omega]
    · rw [if_neg c, powers_err r c]
def power (r n : Int) : Int × Int := if mayR r ∧ 0 ≤ n ∧ n ≤ 600 then powers r n.toNat else (0, 2)
theorem power_ok {r n : Int} (h : mayR r) (h0 : 0 ≤ n) (h1 : n ≤ 600) : power r n = powers r n.toNat := by
  unfold power
  rw [if_pos ⟨h, h0, h1⟩]
theorem power_no {r n : Int} (h : ¬mayR r) : power r n = (0, 2) := by
  unfold power
  rw [if_neg (fun g => h g.1)]
theorem power_f {r n : Int} {k : Nat} (hk : 700 ≤ k) : rate_Power.f k r n = some (power r n) := by
  obtain ⟨k, rfl⟩ : ∃ m, k = m + 1 := ⟨k - 1, by omega⟩
  unfold rate_Power.f power
  rw [may]
  simp only [Option.bind_some]
  by_cases c : mayR r
  · rw [decide_eq_true c]
    simp only [if_true]
    by_cases d : n < 0
    · rw [if_pos d, rate_Power.j0, if_pos rfl, if_neg (by omega)]
    · rw [if_neg d]
      by_cases e : n > 600
      · rw [decide_eq_true e, rate_Power.j0, if_pos rfl, if_neg (by omega)]
      · rw [decide_eq_false e, rate_Power.j0, if_neg (by simp), if_pos ⟨c, by omega, by omega⟩]
        have := power_l0 (r := r) n.toNat 0 k (by omega) (by omega)
        rw [Nat.zero_add, show ((n.toNat : Nat) : Int) = n by omega] at this
        exact this
  · rw [decide_eq_false c, if_neg (c := mayR r ∧ _) (fun h => c h.1)]
    simp only [Bool.false_eq_true, if_false]
    rw [rate_Power.j0, if_pos rfl]
end Go.Proofs.Ytioicmialbimfaa.XRate
end

section
namespace Go.Proofs.Ytioicmialbimfaa.RateAlive
set_option linter.unusedVariables false
set_option linter.unusedSimpArgs false
open Go.RowKit Go.Proofs.Ytioicmialbimfaa.S Go.Proofs.Ytioicmialbimfaa.XNum Go.Proofs.Ytioicmialbimfaa.XWide Go.Proofs.Ytioicmialbimfaa.Rnd Go.Proofs.Ytioicmialbimfaa.XMdiv Go.Proofs.Ytioicmialbimfaa.XRate Go.Proofs.YtioicmialbimfaaW.PrintWords

theorem alive {k : Nat} (hk : 700 ≤ k) : lombardlaw03_alive.f k = some true := by
  unfold lombardlaw03_alive.f
  rw [interest_f ⟨by omega, by omega⟩ (by omega), discount_f ⟨by omega, by omega⟩ (by omega), power_f hk, grow_f ⟨by omega, by omega⟩ (by omega)]
  decide

/-- no rate, or a rounded quotient -/
theorem interest_in {x r : Int} (h : mayR r) : interest x r = if I64 (near (x * r) 1000000000000) then (near (x * r) 1000000000000, 0) else (0, 3) := by
  unfold interest
  rw [if_pos h, mdiv_n (by omega)]
theorem grow_in {x r : Int} (h : mayR r) : grow x r = if I64 (near (x * (1000000000000 + r)) 1000000000000) then (near (x * (1000000000000 + r)) 1000000000000, 0) else (0, 3) := by
  unfold grow
  rw [if_pos h, mdiv_n (by omega)]
theorem discount_in {x r : Int} (h : mayR r) : discount x r = if I64 (near (x * 1000000000000) (1000000000000 + r)) then (near (x * 1000000000000) (1000000000000 + r), 0) else (0, 3) := by
  unfold discount
  rw [if_pos h, mdiv_n (by unfold mayR at h; omega)]
/-- grown, it is itself and its interest, or 1 beside -/
theorem grow_split (x r : Int) : -1 ≤ near (x * (1000000000000 + r)) 1000000000000 - x - near (x * r) 1000000000000 ∧ near (x * (1000000000000 + r)) 1000000000000 - x - near (x * r) 1000000000000 ≤ 1 := by
  obtain ⟨a1, a2, _⟩ := near_spec (A := x * (1000000000000 + r)) (b := 1000000000000) (by omega)
  obtain ⟨b1, b2, _⟩ := near_spec (A := x * r) (b := 1000000000000) (by omega)
  rw [Int.mul_add] at a1 a2
  rw [Int.mul_add]
  generalize x * r = m at *
  omega
/-- what lies between two is between the nearer ones -/
theorem near_le {A b N : Int} (hb : 0 < b) (h : A ≤ b * N) : near A b ≤ N := by
  have := near_mono hb h
  rw [near_exact hb] at this
  exact this
theorem near_ge {A b N : Int} (hb : 0 < b) (h : b * N ≤ A) : N ≤ near A b := by
  have := near_mono hb h
  rw [near_exact hb] at this
  exact this
end Go.Proofs.Ytioicmialbimfaa.RateAlive
end

section
namespace Go.Proofs.Ytioicmialbimfaa.Pure
set_option linter.unusedVariables false
set_option linter.unusedSimpArgs false
open Go.RowKit Go.Proofs.Ytioicmialbimfaa.S Go.Proofs.Ytioicmialbimfaa.XNum Go.Proofs.Ytioicmialbimfaa.XWide Go.Proofs.Ytioicmialbimfaa.Rnd Go.Proofs.Ytioicmialbimfaa.XMdiv Go.Proofs.Ytioicmialbimfaa.XRate Go.Proofs.Ytioicmialbimfaa.RateAlive Go.Proofs.YtioicmialbimfaaW.PrintWords Go.Proofs.YtioicmialbimfaaW.PrintLast

theorem may0 : mayR 0 := by decide
theorem grow0 {x : Int} (h : I64 x) : grow x 0 = (x, 0) := by
  rw [grow_in may0, show x * (1000000000000 + 0) = 1000000000000 * x by omega, near_exact (by omega), if_pos h]
theorem discount0 {x : Int} (h : I64 x) : discount x 0 = (x, 0) := by
  rw [discount_in may0, show x * 1000000000000 = (1000000000000 + 0) * x by omega, near_exact (by omega), if_pos h]
theorem interest0 (x : Int) : interest x 0 = (0, 0) := by
  rw [interest_in may0, show x * 0 = 1000000000000 * 0 by omega, near_exact (by omega), if_pos ⟨by omega, by omega⟩]

/-- grown and discounted it is itself, or 1 beside -/
theorem there_back {x r y : Int} (hr : 0 ≤ r) (hy : y = near (x * (1000000000000 + r)) 1000000000000) : -1 ≤ near (y * 1000000000000) (1000000000000 + r) - x ∧ near (y * 1000000000000) (1000000000000 + r) - x ≤ 1 := by
  obtain ⟨a1, a2, _⟩ := near_spec (A := x * (1000000000000 + r)) (b := 1000000000000) (by omega)
  rw [← hy] at a1 a2
  obtain ⟨b1, b2, _⟩ := near_spec (A := y * 1000000000000) (b := 1000000000000 + r) (by omega)
  generalize near (y * 1000000000000) (1000000000000 + r) = z at *
  generalize hb : 1000000000000 + r = b at *
  have e : 2 * (b * (z - x)) ≤ 1000000000000 + b ∧ -(1000000000000 + b) ≤ 2 * (b * (z - x)) := by
    rw [Int.mul_sub, Int.mul_comm b x]
    omega
  constructor
  · rcases Int.lt_or_le (z - x) (-1) with c | c
    · have : b * (z - x) ≤ b * (-2) := Int.mul_le_mul_of_nonneg_left (by omega) (by omega)
      omega
    · exact c
  · rcases Int.lt_or_le 1 (z - x) with c | c
    · have : b * 2 ≤ b * (z - x) := Int.mul_le_mul_of_nonneg_left (by omega) (by omega)
      omega
    · exact c

theorem rate_back_j1 {x r : Int} (hx : I64 x) (hr : I64 r) {k : Nat} (hk : 40 ≤ k) : lombardlaw03_RateBack.j1 k x r false = some true := by
  obtain ⟨k, rfl⟩ : ∃ m, k = m + 1 := ⟨k - 1, by omega⟩
  rw [lombardlaw03_RateBack.j1, if_neg (by simp)]
  by_cases c : r < 0
  · rw [if_pos c]
  rw [if_neg c, grow_f hx (by omega)]
  simp only [Option.bind_some]
  by_cases m : mayR r
  · have m' := m
    unfold mayR at m'
    rw [grow_in m]
    by_cases i : I64 (near (x * (1000000000000 + r)) 1000000000000)
    · rw [if_pos i]
      simp only [if_true]
      have tb := there_back (x := x) (r := r) (by omega) rfl
      obtain ⟨g1, g2, _⟩ := near_spec (A := x * (1000000000000 + r)) (b := 1000000000000) (by omega)
      generalize hy : near (x * (1000000000000 + r)) 1000000000000 = y at *
      rw [discount_f i (by omega), discount_in m]
      simp only [Option.bind_some]
      have z1 : I64 (near (y * 1000000000000) (1000000000000 + r)) := by
        constructor
        · refine near_ge (by omega) ?_
          rw [Int.add_mul]
          have : r * (-9223372036854775808) ≤ 0 := Int.mul_nonpos_of_nonneg_of_nonpos (by omega) (by omega)
          omega
        · refine near_le (by omega) ?_
          rw [Int.add_mul]
          have : 0 ≤ r * 9223372036854775807 := Int.mul_nonneg (by omega) (by omega)
          omega
      rw [if_pos z1]
      simp only [if_true]
      generalize near (y * 1000000000000) (1000000000000 + r) = z at *
      by_cases p : z = x
      · rw [if_pos p]
      · rw [if_neg p]
        by_cases q : z = x + 1
        · rw [if_pos (by rw [w64 (by omega) (by omega)]; exact q)]
        · have e : z = x - 1 := by omega
          rw [if_neg (by
            intro h
            unfold wrap64 at h
            omega), w64 (by omega) (by omega), e]
          simp
    · rw [if_neg i]
      simp only [show ((3 : Int) = 0) = False by simp, show ((3 : Int) = 2) = False by simp, if_false, if_true]
      have big : x > 576460752303423488 ∨ x < -576460752303423488 := by
        rcases Int.lt_or_le 576460752303423488 x with c | c
        · exact .inl c
        · rcases Int.lt_or_le x (-576460752303423488) with d | d
          · exact .inr d
          · exfalso
            apply i
            have b := mul_bd (a := x) (b := 1000000000000 + r) (C := 576460752303423488) (D := 11000000000000) (by omega) (by omega) (by omega) (by omega)
            constructor
            · exact near_ge (by omega) (by omega)
            · exact near_le (by omega) (by omega)
      by_cases p : x > 576460752303423488
      · rw [if_pos p]
      · rw [if_neg p, decide_eq_true (by omega)]
  · have : grow x r = (0, 2) := by unfold grow; rw [if_neg m]
    rw [this]
    unfold mayR at m
    simp only [show ((2 : Int) = 0) = False by simp, if_false, if_true]
    rw [if_pos (by omega)]

theorem RateBack : lombardlaw03_RateBack.Pure := by
  intro x r hx hr
  rw [wf64] at hx hr
  refine ⟨800, ?_⟩
  unfold lombardlaw03_RateBack.f
  rw [alive (by omega)]
  simp only [Option.bind_some, if_true]
  rw [lombardlaw03_RateBack.l0, if_pos (by omega), if_pos rfl, grow_f hx (by omega), grow0 hx]
  simp only [Option.bind_some, if_true]
  rw [w64 (by omega) (by omega), Int.zero_add, lombardlaw03_RateBack.l0, if_pos (by omega), if_neg (by omega), if_pos rfl, discount_f hx (by omega), discount0 hx]
  simp only [Option.bind_some, if_true]
  rw [w64 (by omega) (by omega), lombardlaw03_RateBack.l0, if_neg (by omega), interest_f hx (by omega), interest0]
  simp only [Option.bind_some, if_true]
  exact rate_back_j1 hx hr (by omega)
end Go.Proofs.Ytioicmialbimfaa.Pure
end

section
namespace Go.Proofs.Ytioicmialbimfaa.rateBack
open Go.ChangeShapes Go.WideShapes Go.ChangeAt Go.RowKit
open Go.ChangeMaps (open_string shut_string)
set_option linter.unusedVariables false
theorem own : ownKnob Try.prog.godebug = none := by kernel_rfl
set_option maxRecDepth 100000 in
theorem lifted (os : Os) (started : os.Started) (H : Type) (enc : TypeId × Value → H) :
    ReturnsInHanded {} Try.checked os 4 .any (Rows.rateBackSpec.pre6 enc Try.prog Try.f4 Rows.rateBackRow.domain false) (Rows.rateBackSpec.post enc Try.prog Try.f4 false true false false) := by
  refine returnsInHanded_of_change_sized (C := Try.checked) own started (by kernel_rfl) Try.func4
    (ChangeSpec.witness6 (enc := enc) (C := Try.checked) false ⟨#[], #[.int .i64 0, .int .i64 0], []⟩ 8 (by kernel_rfl) (by kernel_rfl) (by kernel_rfl) (by kernel_rfl)) ?_
  intro W base args ds gs before hval0 hW hcnd hsz0 _
  have hsz : (DataW.weightsEach Try.prog (Try.f4.params.toList ++ Rows.rateBackSpec.plain.varTypes Try.prog) (ds ++ gs)).all (· ≤ reachBytes) = true := hsz0
  have hval : ∀ (j : Nat) t v, Try.f4.params[j]? = some t → args[j]? = some v → Value.okWide Try.prog W .any base t v := hval0
  have hW' := hW
  obtain ⟨p, q, hA0, hV, rfl, hfz, hnd⟩ := hW
  have hA : DataW.TrodAll enc Try.prog W 0 (fun _ => true) true Try.f4.params.toList args.toList ds p := hA0
  rw [Try.params4] at hA hval hsz
  obtain ⟨v0, vs0, d0, ds0, p0, q0, hargs, rfl, rfl, h0, r0⟩ := trodAll_cons hA
  obtain ⟨v1, vs1, d1, ds1, p1, q1, rfl, rfl, rfl, h1, r1⟩ := trodAll_cons r0
  obtain ⟨rfl, rfl, rfl⟩ := trodAll_nil r1
  obtain rfl : args = #[v0, v1] := by cases args; simp_all
  obtain ⟨rfl, rfl⟩ := trodVars_none hV
  obtain ⟨a0, rfl, rfl, rfl, w0⟩ := open_int Try.underlying2 (hval 0 2 v0 rfl rfl) h0
  obtain ⟨a1, rfl, rfl, rfl, w1⟩ := open_int Try.underlying2 (hval 1 2 v1 rfl rfl) h1
  clear hA0 hval0 hsz0 hsz
  refine (S.lombardlaw03_RateBack.walk Pure.RateBack a0 a1 W w0 w1).mono fun e W' ⟨he, bel⟩ => ?_
  subst he
  exact ⟨_, rfl, _, _, _, [], _, [], hW', trodAll_mk1 (shut_bool Try.underlying4 _), (trodAll_cons_mk (shut_int Try.underlying2 w0) (trodAll_cons_mk (shut_int Try.underlying2 w1) trodAll_mk0)), rfl, bel.frame _, fun h => by cases h⟩
theorem over : Rows.rateBackRow.holds Try.pinned (OpenSpec.ofChange Rows.rateBackSpec) :=
  OpenClaim.holds_of_wide 4 Try.f4 rfl rfl rfl rfl rfl rfl rfl ⟨rfl, rfl, rfl, rfl, rfl⟩ rfl rfl rfl rfl rfl (by kernel_rfl) Try.func4 (by kernel_rfl)
    (of_decide_eq_true (by kernel_rfl)) (by unfold Func.isWrapper; first | (rw [if_pos (by decide +kernel)]; kernel_rfl) | (rw [if_neg (by decide +kernel)]; exact ⟨rfl, rfl⟩))
    (fun os started H enc _ => lifted os started H enc)
theorem proved : Rows.RateBackSaid := over
#print axioms proved
end Go.Proofs.Ytioicmialbimfaa.rateBack
namespace Go.Proofs.Ytioicmialbimfaa
/-- The row, under a short name, for the claim. -/
theorem rateBack_holds : Rows.RateBackSaid := rateBack.proved
end Go.Proofs.Ytioicmialbimfaa
end
