set_option linter.unusedSimpArgs false
set_option linter.unusedVariables false
/-
 Quotients of whole numbers, rounded downwards or to the nearer one, the even one of two: plain laws of Int.
 Conditions: none beyond those that each theorem names.
-/
namespace Go.Proofs.Ytjgleaakgbnjgaa.Rnd
def near (A b : Int) : Int := if 2 * (A % b) > b ∨ 2 * (A % b) = b ∧ (A / b) % 2 = 1 then A / b + 1 else A / b
theorem div_split (A b : Int) (hb : 0 < b) : A = b * (A / b) + A % b ∧ 0 ≤ A % b ∧ A % b < b :=
 ⟨(Int.mul_ediv_add_emod A b).symm, Int.emod_nonneg A (by omega), Int.emod_lt_of_pos A hb⟩
theorem near_spec {A b : Int} (hb : 0 < b) : 2 * (b * near A b) ≤ 2 * A + b ∧ 2 * A ≤ 2 * (b * near A b) + b ∧
  (2 * (b * near A b) = 2 * A + b ∨ 2 * A = 2 * (b * near A b) + b → near A b % 2 = 0) := by
 obtain ⟨h, h0, h1⟩ := div_split A b hb
 unfold near
 generalize A % b = r at *
 generalize A / b = q at *
 split
 ·rw [Int.mul_add, Int.mul_one]
  generalize b * q = m at *
  refine ⟨by omega, by omega, by omega⟩
 ·generalize b * q = m at *
  refine ⟨by omega, by omega, by omega⟩
theorem mul_step {b N M : Int} (hb : 0 < b) (h : N < M) : b * N + b ≤ b * M := by
 have : b * (N + 1) ≤ b * M := Int.mul_le_mul_of_nonneg_left (by omega) (by omega)
 rw [Int.mul_add, Int.mul_one] at this
 exact this
theorem near_mono {A A' b : Int} (hb : 0 < b) (h : A ≤ A') : near A b ≤ near A' b := by
 obtain ⟨a1, a2, a3⟩ := near_spec (A := A) hb
 obtain ⟨b1, b2, b3⟩ := near_spec (A := A') hb
 generalize near A b = N at *
 generalize near A' b = M at *
 by_cases c : N ≤ M
 ·exact c
 have s := mul_step hb (show M < N by omega)
 have s2 : M + 2 ≤ N → b * M + 2 * b ≤ b * N := fun h => by
  have := mul_step hb (show M < M + 1 by omega)
  have := mul_step hb (show M + 1 < N by omega)
  omega
 by_cases d : M + 2 ≤ N
 ·have := s2 d
  omega
 have e : N = M + 1 := by omega
 subst e
 rw [Int.mul_add, Int.mul_one] at *
 omega
theorem near_uniq {A b N : Int} (hb : 0 < b) (h1 : 2 * (b * N) ≤ 2 * A + b) (h2 : 2 * A ≤ 2 * (b * N) + b)
  (h3 : 2 * (b * N) = 2 * A + b ∨ 2 * A = 2 * (b * N) + b → N % 2 = 0) : near A b = N := by
 obtain ⟨a1, a2, a3⟩ := near_spec (A := A) hb
 generalize near A b = M at *
 rcases Int.lt_trichotomy M N with c | c | c
 ·have s := mul_step hb c
  by_cases d : M + 2 ≤ N
  ·have := mul_step hb (show M < M + 1 by omega)
   have := mul_step hb (show M + 1 < N by omega)
   omega
  have e : N = M + 1 := by omega
  subst e
  rw [Int.mul_add, Int.mul_one] at *
  omega
 ·exact c
 ·have s := mul_step hb c
  by_cases d : N + 2 ≤ M
  ·have := mul_step hb (show N < N + 1 by omega)
   have := mul_step hb (show N + 1 < M by omega)
   omega
  have e : M = N + 1 := by omega
  subst e
  rw [Int.mul_add, Int.mul_one] at *
  omega
theorem near_neg {A b : Int} (hb : 0 < b) : near (-A) b = -near A b := by
 obtain ⟨a1, a2, a3⟩ := near_spec (A := A) hb
 have e : b * -near A b = -(b * near A b) := Int.mul_neg _ _
 refine near_uniq hb ?_ ?_ ?_ <;> rw [e] <;> omega
theorem near_exact {b N : Int} (hb : 0 < b) : near (b * N) b = N := near_uniq hb (by omega) (by omega) (by omega)
theorem near_nn {A b : Int} (hb : 0 < b) (h : 0 ≤ A) : 0 ≤ near A b := by
 have := near_mono hb h
 have e : near (b * 0) b = 0 := near_exact hb
 rw [Int.mul_zero] at e
 omega
def rnd (A b way : Int) : Int := if way = 0 then (if b < 0 then (-A) / (-b) else A / b) else (if b < 0 then near (-A) (-b) else near A b)
theorem floor_neg {X b : Int} (hb : 0 < b) : (-X) / b = -(X / b + if X % b > 0 then 1 else 0) := by
 obtain ⟨h, h0, h1⟩ := div_split X b hb
 obtain ⟨g, g0, g1⟩ := div_split (-X) b hb
 generalize X % b = r at *
 generalize X / b = q at *
 generalize (-X) % b = r' at *
 generalize (-X) / b = q' at *
 -- b q' + r' = -(b q + r)
 split
 ·rcases Int.lt_trichotomy q' (-(q + 1)) with c | c | c
  ·have := mul_step hb c
   rw [Int.mul_neg, Int.mul_add, Int.mul_one] at this
   omega
  ·omega
  ·have := mul_step hb c
   rw [Int.mul_neg, Int.mul_add, Int.mul_one] at this
   omega
 ·rcases Int.lt_trichotomy q' (-q) with c | c | c
  ·have := mul_step hb c
   rw [Int.mul_neg] at this
   omega
  ·omega
  ·have := mul_step hb c
   rw [Int.mul_neg] at this
   omega
def upf (way X y : Int) (less : Bool) : Bool := if way = 0 then less && decide (X % y > 0) else decide (2 * (X % y) > y ∨ 2 * (X % y) = y ∧ (X / y) % 2 = 1)
theorem rnd_sizes {A b way X y : Int} (hw : way = 0 ∨ way = 1) (hb : b ≠ 0) (hX : X = if A < 0 then -A else A) (hy : y = if b < 0 then -b else b) :
  rnd A b way = if (decide (A < 0) != decide (b < 0)) = true then -(X / y + (if upf way X y (decide (A < 0) != decide (b < 0)) = true then 1 else 0)) else X / y + (if upf way X y (decide (A < 0) != decide (b < 0)) = true then 1 else 0) := by
 unfold upf
 have hy0 : 0 < y := by subst hy; split <;> omega
 have hX0 : 0 ≤ X := by subst hX; split <;> omega
 rcases hw with rfl | rfl
 ·unfold rnd
  rw [if_pos rfl]
  simp only [if_true]
  by_cases c : A < 0
  ·rw [if_pos c] at hX
   by_cases d : b < 0
   ·rw [if_pos d] at hy ⊢
    rw [decide_eq_true c, decide_eq_true d, ← hX, ← hy]
    simp
   ·rw [if_neg d] at hy ⊢
    rw [decide_eq_true c, decide_eq_false d, ← hy]
    have : A = -X := by omega
    rw [this, floor_neg hy0]
    simp
  ·rw [if_neg c] at hX
   by_cases d : b < 0
   ·rw [if_pos d] at hy ⊢
    rw [decide_eq_false c, decide_eq_true d, ← hX, ← hy, floor_neg hy0]
    simp
   ·rw [if_neg d] at hy ⊢
    rw [decide_eq_false c, decide_eq_false d, ← hX, ← hy]
    simp
 ·unfold rnd
  rw [if_neg (by omega)]
  simp only [show ((1 : Int) = 0) = False by simp, if_false]
  have hn : (X / y + if decide (2 * (X % y) > y ∨ 2 * (X % y) = y ∧ X / y % 2 = 1) = true then 1 else 0) = near X y := by
   unfold near
   simp only [decide_eq_true_eq]
   split <;> omega
  rw [hn]
  by_cases c : A < 0
  ·rw [if_pos c] at hX
   by_cases d : b < 0
   ·rw [if_pos d] at hy ⊢
    rw [decide_eq_true c, decide_eq_true d, ← hX, ← hy]
    simp
   ·rw [if_neg d] at hy ⊢
    rw [decide_eq_true c, decide_eq_false d, ← hy]
    have : A = -X := by omega
    rw [this, near_neg hy0]
    simp
  ·rw [if_neg c] at hX
   by_cases d : b < 0
   ·rw [if_pos d] at hy ⊢
    rw [decide_eq_false c, decide_eq_true d, ← hX, ← hy, near_neg hy0]
    simp
   ·rw [if_neg d] at hy ⊢
    rw [decide_eq_false c, decide_eq_false d, ← hX, ← hy]
    simp
end Go.Proofs.Ytjgleaakgbnjgaa.Rnd
