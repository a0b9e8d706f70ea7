/- The statement MoneyScalesSaid: for every input the law returns true, and each argument reads afterwards as it read before. Conditions: none. -/
import Derived.Test.YtohbdjfabghagaaSx0
import Derived.Test.YtohbdjfabghagaaSxMoneyTold
import Derived.Test.YtohbdjfabghagaaXWide
import Derived.Test.YtohbdjfabghagaaSxMoneyAdd
import Derived.Test.YtohbdjfabghagaaSxMoneyMul
import Derived.Test.YtohbdjfabghagaaSxLombardref01Mul
import Derived.Test.YtohbdjfabghagaaSxMoneyMay
import Derived.Test.YtohbdjfabghagaaSxMoneySum
import Derived.Test.YtohbdjfabghagaaSxMoneySplit
import Derived.Test.YtohbdjfabghagaaSxLombardlaw01Alive
import Derived.Test.YtohbdjfabghagaaXWalk
import Derived.OrdersHeld
import Derived.LoopTactic
import Derived.Deep.DeepMust
import Derived.SizedLaws
import Derived.ChangeSlices
import Derived.Test.YtohbdjfabghagaaRows
import Derived.WalkKit
import Derived.ProofKit
import Derived.OpenShut
import Derived.ShutString
import Derived.ChangeOld
import Derived.Below
section
namespace Go.Proofs.Ytohbdjfabghagaa.S
open Go.RowKit Go.Proofs.YtohbdjfabghagaaW.PrintWords Go.Proofs.YtohbdjfabghagaaW.PrintLast Go.Proofs.YtohbdjfabghagaaW.PrintMore
attribute [local go_sem] max2_int min2_int max_two min_two max_three min_three max_four min_four   -- for this text's walks alone
attribute [local go_sem] Go.Proofs.Ytohbdjfabghagaa.XWalk.cell2
set_option linter.unusedVariables false
set_option linter.unusedSimpArgs false

/-! ### money_Sub: function 31 -/
def money_Sub.f (a0 : Int) (a1 : Int) : Option (Int × Int) := if ((decide (a0 < 0)) == (decide (a1 < 0))) = true then ((money_told.f (wrap64 (a0 - a1)) true).bind fun bt337 => (some (bt337.1, bt337.2))) else ((money_told.f (wrap64 (a0 - a1)) ((decide ((wrap64 (a0 - a1)) < 0)) == (decide (a0 < 0)))).bind fun bt339 => (some (bt339.1, bt339.2)))
end Go.Proofs.Ytohbdjfabghagaa.S
end

section
namespace Go.Proofs.Ytohbdjfabghagaa.S
open Go.RowKit Go.Proofs.YtohbdjfabghagaaW.PrintWords Go.Proofs.YtohbdjfabghagaaW.PrintLast Go.Proofs.YtohbdjfabghagaaW.PrintMore
attribute [local go_sem] max2_int min2_int max_two min_two max_three min_three max_four min_four   -- for this text's walks alone
attribute [local go_sem] Go.Proofs.Ytohbdjfabghagaa.XWalk.cell2
set_option linter.unusedVariables false
set_option linter.unusedSimpArgs false

/-! ### money_Neg: function 35 -/
def money_Neg.f (a0 : Int) : Option (Int × Int) := (money_Sub.f 0 a0).bind fun bt359 => (some (bt359.1, bt359.2))
end Go.Proofs.Ytohbdjfabghagaa.S
end

section
namespace Go.Proofs.Ytohbdjfabghagaa.S
open Go.RowKit Go.Proofs.YtohbdjfabghagaaW.PrintWords Go.Proofs.YtohbdjfabghagaaW.PrintLast Go.Proofs.YtohbdjfabghagaaW.PrintMore
attribute [local go_sem] max2_int min2_int max_two min_two max_three min_three max_four min_four   -- for this text's walks alone
attribute [local go_sem] Go.Proofs.Ytohbdjfabghagaa.XWalk.cell2
set_option linter.unusedVariables false
set_option linter.unusedSimpArgs false

/-! ### lombardref01_Add: function 30 -/
def lombardref01_Add.f (a0 : Int) (a1 : Int) : Option (Int × Int) := if a1 > 0 then (if a0 > (wrap64 (9223372036854775807 - a1)) then (some (0, 3)) else (if a1 < 0 then (if a0 < (wrap64 ((-9223372036854775808) - a1)) then (some (0, 3)) else (some (wrap64 (a0 + a1), 0))) else (some (wrap64 (a0 + a1), 0)))) else (if a1 < 0 then (if a0 < (wrap64 ((-9223372036854775808) - a1)) then (some (0, 3)) else (some (wrap64 (a0 + a1), 0))) else (some (wrap64 (a0 + a1), 0)))
end Go.Proofs.Ytohbdjfabghagaa.S
end

section
namespace Go.Proofs.Ytohbdjfabghagaa.S
open Go.RowKit Go.Proofs.YtohbdjfabghagaaW.PrintWords Go.Proofs.YtohbdjfabghagaaW.PrintLast Go.Proofs.YtohbdjfabghagaaW.PrintMore
attribute [local go_sem] max2_int min2_int max_two min_two max_three min_three max_four min_four   -- for this text's walks alone
attribute [local go_sem] Go.Proofs.Ytohbdjfabghagaa.XWalk.cell2
set_option linter.unusedVariables false
set_option linter.unusedSimpArgs false

/-! ### lombardref01_May: function 38 -/
def lombardref01_May.f (a0 : Int) : Option (Bool) := if a0 ≥ (-10000000000000) then (some (decide (a0 ≤ 10000000000000))) else (some false)
end Go.Proofs.Ytohbdjfabghagaa.S
end

section
namespace Go.Proofs.Ytohbdjfabghagaa.XMoney
set_option linter.unusedVariables false
set_option linter.unusedSimpArgs false
open Go.RowKit Go.Proofs.Ytohbdjfabghagaa.S Go.Proofs.Ytohbdjfabghagaa.XNum Go.Proofs.Ytohbdjfabghagaa.XBits Go.Proofs.Ytohbdjfabghagaa.XWide Go.Proofs.YtohbdjfabghagaaW.PrintWords

/-- A number, or that it is too great. -/
def told (n : Int) : Int × Int := if -9223372036854775808 ≤ n ∧ n ≤ 9223372036854775807 then (n, 0) else (0, 3)
theorem told_in {n : Int} (h0 : -9223372036854775808 ≤ n) (h1 : n ≤ 9223372036854775807) : told n = (n, 0) := by unfold told; rw [if_pos ⟨h0, h1⟩]
theorem told_out {n : Int} (h : n < -9223372036854775808 ∨ 9223372036854775807 < n) : told n = (0, 3) := by unfold told; rw [if_neg (by omega)]
theorem told_f (n : Int) (b : Bool) : money_told.f n b = some (if b = true then (n, 0) else (0, 3)) := by
  unfold money_told.f
  cases b <;> simp

theorem add {a b : Int} (ha : I64 a) (hb : I64 b) : money_Add.f a b = some (told (a + b)) := by
  obtain ⟨a0, a1⟩ := ha
  obtain ⟨b0, b1⟩ := hb
  unfold money_Add.f money_sum_int64.f
  by_cases ca : a < 0
  · by_cases cb : b < 0
    · rw [decide_eq_true ca, decide_eq_true cb]
      simp only [beq_self_eq_true, Bool.not_true, Bool.false_eq_true, if_false, Option.bind_some, told_f]
      by_cases c : a + b < -9223372036854775808
      · rw [told_out (.inl c), decide_eq_false (by unfold wrap64; omega)]
        simp
      · rw [told_in (by omega) (by omega), w64 (by omega) (by omega), decide_eq_true (by omega)]
        simp
    · rw [decide_eq_true ca, decide_eq_false cb, told_in (by omega) (by omega), w64 (by omega) (by omega)]
      simp [told_f]
  · by_cases cb : b < 0
    · rw [decide_eq_false ca, decide_eq_true cb, told_in (by omega) (by omega), w64 (by omega) (by omega)]
      simp [told_f]
    · rw [decide_eq_false ca, decide_eq_false cb]
      simp only [beq_self_eq_true, Bool.not_true, Bool.false_eq_true, if_false, Option.bind_some, told_f]
      by_cases c : a + b > 9223372036854775807
      · rw [told_out (.inr c), decide_eq_true (by unfold wrap64; omega)]
        simp
      · rw [told_in (by omega) (by omega), w64 (by omega) (by omega), decide_eq_false (by omega)]
        simp

theorem size {a : Int} (ha : I64 a) : money_size_int64.f a = some (if a < 0 then -a else a) := by
  obtain ⟨a0, a1⟩ := ha
  unfold money_size_int64.f
  split
  · rw [wu, wu]
    congr 1 <;> omega
  · rw [wu]
    congr 1 <;> omega

theorem mul {a b : Int} (ha : I64 a) (hb : I64 b) : money_Mul.f a b = some (told (a * b)) := by
  have hm := mul_i64 ha hb
  unfold money_Mul.f
  rw [size ha, size hb]
  simp only [Option.bind_some, told_f]
  obtain ⟨a0, a1⟩ := ha
  obtain ⟨b0, b1⟩ := hb
  have P : ∀ x y : Int, 0 ≤ x → x ≤ 9223372036854775808 → 0 ≤ y → y ≤ 9223372036854775808 → 0 ≤ x * y ∧ x * y ≤ 85070591730234615865843651857942052864 := by
    intro x y x0 x1 y0 y1
    refine ⟨Int.mul_nonneg x0 y0, ?_⟩
    have := mul_bd (C := 9223372036854775808) (D := 9223372036854775808) (a := x) (b := y) (by omega) x1 (by omega) y1
    omega
  by_cases ca : a < 0
  · by_cases cb : b < 0
    · rw [if_pos ca, if_pos cb, decide_eq_true ca, decide_eq_true cb, mul64 (by omega) (by omega) (by omega) (by omega), Int.neg_mul_neg]
      have := (P (-a) (-b) (by omega) (by omega) (by omega) (by omega)).1
      rw [Int.neg_mul_neg] at this
      generalize a * b = m at *
      simp only [Option.bind_some, beq_self_eq_true, Bool.not_true, Bool.false_eq_true, if_false]
      by_cases c : m / 18446744073709551616 = 0
      · rw [if_pos c]
        by_cases d : m % 18446744073709551616 < 9223372036854775808
        · rw [decide_eq_true d, told_in (by omega) (by omega), w64 (by omega) (by omega)]
          simp <;> omega
        · rw [decide_eq_false d, told_out (by omega)]
          simp
      · rw [if_neg c, told_out (by omega)]
        first | done | simp
    · rw [if_pos ca, if_neg cb, decide_eq_true ca, decide_eq_false cb, mul64 (by omega) (by omega) (by omega) (by omega), Int.neg_mul]
      have := (P (-a) b (by omega) (by omega) (by omega) (by omega)).1
      rw [Int.neg_mul] at this
      generalize a * b = m at *
      simp only [Option.bind_some, beq_false, Bool.not_true, Bool.not_false, if_true]
      by_cases c : -m / 18446744073709551616 = 0
      · rw [if_pos c]
        by_cases d : -m % 18446744073709551616 ≤ 9223372036854775808
        · rw [decide_eq_true d, told_in (by omega) (by omega), wu]
          simp
          unfold wrap64
          omega
        · rw [decide_eq_false d, told_out (by omega)]
          simp
      · rw [if_neg c, told_out (by omega)]
        first | done | simp
  · by_cases cb : b < 0
    · rw [if_neg ca, if_pos cb, decide_eq_false ca, decide_eq_true cb, mul64 (by omega) (by omega) (by omega) (by omega), Int.mul_neg]
      have := (P a (-b) (by omega) (by omega) (by omega) (by omega)).1
      rw [Int.mul_neg] at this
      generalize a * b = m at *
      simp only [Option.bind_some, beq_true, Bool.not_false, if_true]
      by_cases c : -m / 18446744073709551616 = 0
      · rw [if_pos c]
        by_cases d : -m % 18446744073709551616 ≤ 9223372036854775808
        · rw [decide_eq_true d, told_in (by omega) (by omega), wu]
          simp
          unfold wrap64
          omega
        · rw [decide_eq_false d, told_out (by omega)]
          simp
      · rw [if_neg c, told_out (by omega)]
        first | done | simp
    · rw [if_neg ca, if_neg cb, decide_eq_false ca, decide_eq_false cb, mul64 (by omega) (by omega) (by omega) (by omega)]
      have := (P a b (by omega) (by omega) (by omega) (by omega)).1
      generalize a * b = m at *
      simp only [Option.bind_some, beq_self_eq_true, Bool.not_true, Bool.false_eq_true, if_false]
      by_cases c : m / 18446744073709551616 = 0
      · rw [if_pos c]
        by_cases d : m % 18446744073709551616 < 9223372036854775808
        · rw [decide_eq_true d, told_in (by omega) (by omega), w64 (by omega) (by omega)]
          simp <;> omega
        · rw [decide_eq_false d, told_out (by omega)]
          simp
      · rw [if_neg c, told_out (by omega)]
        first | done | simp

theorem may (n : Int) : money_May.f n = some (decide (-10000000000000 ≤ n ∧ n ≤ 10000000000000)) := by
  unfold money_May.f
  split
  · congr 1
    rw [decide_eq_decide]
    omega
  · rw [decide_eq_false (by omega)]
end Go.Proofs.Ytohbdjfabghagaa.XMoney
end

section
namespace Go.Proofs.Ytohbdjfabghagaa.XSum
set_option linter.unusedVariables false
set_option linter.unusedSimpArgs false
open Go.RowKit Go.Proofs.Ytohbdjfabghagaa.S Go.Proofs.Ytohbdjfabghagaa.XNum Go.Proofs.Ytohbdjfabghagaa.XBits Go.Proofs.Ytohbdjfabghagaa.XWide Go.Proofs.Ytohbdjfabghagaa.XMoney Go.Proofs.YtohbdjfabghagaaW.PrintWords

/-- all together -/
def tot : List Int → Int
  | [] => 0
  | x :: l => x + tot l
theorem tot_append (a b : List Int) : tot (a ++ b) = tot a + tot b := by
  induction a with
  | nil => simp [tot]
  | cons x a ih => simp only [List.cons_append, tot, ih]; omega
theorem rd_lt {l : List Int} {i : Nat} (h : i < l.length) : rd l (i : Int) = l[i] := by
  unfold rd
  simp [h]
theorem tot_take {l : List Int} {i : Nat} (h : i < l.length) : tot (l.take (i + 1)) = tot (l.take i) + l[i] := by
  rw [List.take_add_one, List.getElem?_eq_getElem h, tot_append]
  simp [tot]

theorem sum_l0 {l : List Int} (hl : ∀ x ∈ l, I64 x) (hn : l.length ≤ 1099511627776) : ∀ (d i : Nat) (lo hi : Int) (k : Nat), i + d = l.length → d + 1 ≤ k → 0 ≤ lo → lo < 18446744073709551616 → -(i : Int) ≤ hi → hi ≤ i →
    hi * 18446744073709551616 + lo = tot (l.take i) → money_Sum.l0 k lo hi l l.length i = some (told (tot l)) := by
  intro d
  induction d with
  | zero =>
    intro i lo hi k hi' hk l0 l1 h0 h1 e
    obtain ⟨k, rfl⟩ : ∃ m, k = m + 1 := ⟨k - 1, by omega⟩
    rw [List.take_of_length_le (by omega)] at e
    simp only [money_Sum.l0]
    rw [if_neg (by omega), told_f, ← e]
    simp only [Option.bind_some]
    by_cases c : -9223372036854775808 ≤ hi * 18446744073709551616 + lo ∧ hi * 18446744073709551616 + lo ≤ 9223372036854775807
    · rw [told_in c.1 c.2, if_pos (by rw [beq_iff_eq]; unfold wrap64; omega)]
      congr 2
      unfold wrap64
      omega
    · rw [told_out (by omega), if_neg (by rw [beq_iff_eq]; unfold wrap64; omega)]
  | succ d ih =>
    intro i lo hi k hi' hk l0 l1 h0 h1 e
    obtain ⟨k, rfl⟩ : ∃ m, k = m + 1 := ⟨k - 1, by omega⟩
    have hlt : i < l.length := by omega
    obtain ⟨x0, x1⟩ := hl l[i] (List.getElem_mem hlt)
    simp only [money_Sum.l0]
    rw [if_pos (by omega), if_pos (by omega), if_pos (by omega), if_pos l0, rd_lt hlt, if_pos (by rw [wu]; omega), w64 (n := (i : Int) + 1) (by omega) (by omega)]
    have c0 : 0 ≤ XWalk.c64 lo (IntKind.u64.wrap l[i]) 0 ∧ XWalk.c64 lo (IntKind.u64.wrap l[i]) 0 ≤ 1 := by
      rw [wu]; unfold XWalk.c64; omega
    have s0 : 0 ≤ XWalk.s64 lo (IntKind.u64.wrap l[i]) 0 ∧ XWalk.s64 lo (IntKind.u64.wrap l[i]) 0 < 18446744073709551616 := by
      unfold XWalk.s64; omega
    have e0 : XWalk.c64 lo (IntKind.u64.wrap l[i]) 0 * 18446744073709551616 + XWalk.s64 lo (IntKind.u64.wrap l[i]) 0 = lo + l[i] - l[i] / 9223372036854775808 * 18446744073709551616 := by
      rw [wu]; unfold XWalk.c64 XWalk.s64; omega
    generalize XWalk.c64 lo (IntKind.u64.wrap l[i]) 0 = c at *
    generalize XWalk.s64 lo (IntKind.u64.wrap l[i]) 0 = s at *
    have d0 : -1 ≤ l[i] / 9223372036854775808 ∧ l[i] / 9223372036854775808 ≤ 0 := by omega
    rw [w64 (n := c) (by omega) (by omega), w64 (n := hi + l[i] / 9223372036854775808) (by omega) (by omega), w64 (n := hi + l[i] / 9223372036854775808 + c) (by omega) (by omega)]
    refine ih (i + 1) _ _ k (by omega) (by omega) s0.1 s0.2 (by omega) (by omega) ?_
    rw [tot_take hlt, ← e]
    omega

theorem sum {l : List Int} (hl : ∀ x ∈ l, I64 x) (hn : l.length ≤ 1099511627776) {k : Nat} (hk : l.length + 1 ≤ k) : money_Sum.f k l = some (told (tot l)) := by
  unfold money_Sum.f
  exact sum_l0 hl hn l.length 0 0 0 k (by omega) hk (by omega) (by omega) (by omega) (by omega) (by simp [tot])
end Go.Proofs.Ytohbdjfabghagaa.XSum
end

section
namespace Go.Proofs.Ytohbdjfabghagaa.XSplit
set_option linter.unusedVariables false
set_option linter.unusedSimpArgs false
open Go.RowKit Go.Proofs.Ytohbdjfabghagaa.S Go.Proofs.Ytohbdjfabghagaa.XNum Go.Proofs.Ytohbdjfabghagaa.XBits Go.Proofs.Ytohbdjfabghagaa.XWide Go.Proofs.Ytohbdjfabghagaa.XMoney Go.Proofs.Ytohbdjfabghagaa.XSum Go.Proofs.YtohbdjfabghagaaW.PrintWords

/-- what is left over goes to the first weights that aren't 0, one to each -/
def dist : List Int → List Int → Int → List Int
  | w :: ws, q :: qs, L => if 0 < w ∧ 0 < L then (q + 1) :: dist ws qs (L - 1) else q :: dist ws qs L
  | _, qs, _ => qs
/-- how many weights aren't 0 -/
def pos : List Int → Int
  | [] => 0
  | w :: ws => (if 0 < w then 1 else 0) + pos ws
theorem dist_zero (ws qs : List Int) : dist ws qs 0 = qs := by
  induction ws generalizing qs with
  | nil => unfold dist; rfl
  | cons w ws ih =>
    cases qs with
    | nil => unfold dist; rfl
    | cons q qs => unfold dist; rw [if_neg (by omega), ih]
def may (n : Int) : Prop := -10000000000000 ≤ n ∧ n ≤ 10000000000000
instance (n : Int) : Decidable (may n) := inferInstanceAs (Decidable (_ ∧ _))
def okw (w : Int) : Prop := 0 ≤ w ∧ w ≤ 10000000000000
instance (w : Int) : Decidable (okw w) := inferInstanceAs (Decidable (_ ∧ _))
def size (n : Int) : Int := if n < 0 then -n else n
def one (n : Int) : Int := if n < 0 then -1 else 1
theorem one_or (n : Int) : one n = 1 ∨ one n = -1 := by unfold one; split <;> simp
theorem one_size (n : Int) : one n * size n = n := by unfold one size; split <;> omega
def quos (n : Int) (ws : List Int) (S : Int) : List Int := ws.map fun w => size n * w / S
def good (n : Int) (ws : List Int) : Prop := ws.length ≠ 0 ∧ ws.length ≤ 600 ∧ may n ∧ (∀ w ∈ ws, okw w) ∧ tot ws ≠ 0
instance (n : Int) (ws : List Int) : Decidable (good n ws) := inferInstanceAs (Decidable (_ ∧ _))
/-- the parts -/
def parts (n : Int) (ws : List Int) : List Int := (dist ws (quos n ws (tot ws)) (size n - tot (quos n ws (tot ws)))).map (one n * ·)
def splitS (n : Int) (ws : List Int) : List Int × Int := if good n ws then (parts n ws, 0) else ([], 2)

theorem tot_nn {l : List Int} (h : ∀ w ∈ l, okw w) : 0 ≤ tot l := by
  induction l with
  | nil => simp [tot]
  | cons x l ih =>
    have := h x (by simp)
    have := ih fun w hw => h w (by simp [hw])
    unfold okw at *
    unfold tot
    omega
theorem tot_le {l : List Int} (h : ∀ w ∈ l, okw w) : tot l ≤ 10000000000000 * l.length := by
  induction l with
  | nil => simp [tot]
  | cons x l ih =>
    have := h x (by simp)
    have := ih fun w hw => h w (by simp [hw])
    unfold okw at *
    unfold tot
    rw [List.length_cons]
    omega
theorem mem_le {l : List Int} (h : ∀ w ∈ l, okw w) {w : Int} (hw : w ∈ l) : w ≤ tot l := by
  induction l with
  | nil => cases hw
  | cons x l ih =>
    have a := h x (by simp)
    have b := fun w hw => h w (List.mem_cons_of_mem x hw)
    have c := tot_nn b
    unfold okw at a
    unfold tot
    rcases List.mem_cons.1 hw with rfl | hw
    · omega
    · have := ih b hw
      omega
theorem quo_bd {n w S : Int} (hn : may n) (hw : okw w) (hS : 0 < S) (hwS : w ≤ S) : 0 ≤ size n * w / S ∧ size n * w / S ≤ size n := by
  have a : 0 ≤ size n := by unfold size; split <;> omega
  have b : 0 ≤ size n * w := Int.mul_nonneg a hw.1
  refine ⟨Int.ediv_nonneg b (by omega), ?_⟩
  have c : size n * w ≤ size n * S := Int.mul_le_mul_of_nonneg_left hwS a
  exact Int.ediv_le_of_le_mul hS c
/-- what is left over is no less than 0, and no more than there are weights that aren't 0 -/
theorem over_bd {n S : Int} (hS : 0 < S) {l : List Int} (h : ∀ w ∈ l, okw w) :
    S * tot (quos n l S) ≤ size n * tot l ∧ size n * tot l ≤ S * tot (quos n l S) + S * pos l := by
  induction l with
  | nil => simp [quos, tot, pos]
  | cons x l ih =>
    have a := h x (by simp)
    obtain ⟨i1, i2⟩ := ih fun w hw => h w (List.mem_cons_of_mem x hw)
    unfold quos at *
    simp only [List.map_cons, tot, pos]
    have d := Int.mul_ediv_add_emod (size n * x) S
    have d0 := Int.emod_nonneg (size n * x) (show S ≠ 0 by omega)
    have d1 := Int.emod_lt_of_pos (size n * x) hS
    have e : x = 0 → size n * x = 0 ∧ size n * x / S = 0 := by
      intro hx
      subst hx
      simp
    rw [Int.mul_add, Int.mul_add, Int.mul_add]
    obtain ⟨a0, _⟩ := a
    generalize size n * x / S = q at *
    generalize size n * x % S = r at *
    by_cases c : 0 < x
    · rw [if_pos c, Int.mul_one]
      omega
    · obtain ⟨e1, e2⟩ := e (by omega)
      rw [if_neg c, e1, e2, Int.mul_zero]
      omega
theorem left_bd {n : Int} {ws : List Int} (h : good n ws) : 0 ≤ size n - tot (quos n ws (tot ws)) ∧ size n - tot (quos n ws (tot ws)) ≤ pos ws ∧ 0 ≤ tot (quos n ws (tot ws)) := by
  obtain ⟨_, _, _, hw, h0⟩ := h
  have hS : 0 < tot ws := by have := tot_nn hw; omega
  obtain ⟨a, b⟩ := over_bd (n := n) hS hw
  generalize hT : tot (quos n ws (tot ws)) = T at *
  have nn : 0 ≤ T := by
    rw [← hT]
    have : ∀ l : List Int, (∀ w ∈ l, okw w) → 0 ≤ tot (quos n l (tot ws)) := by
      intro l
      induction l with
      | nil => intro _; simp [quos, tot]
      | cons x l ih =>
        intro hl
        have := ih fun w hw => hl w (List.mem_cons_of_mem x hw)
        have s0 : 0 ≤ size n := by unfold size; split <;> omega
        have : 0 ≤ size n * x / tot ws := Int.ediv_nonneg (Int.mul_nonneg s0 (hl x (by simp)).1) (by omega)
        unfold quos at *
        simp only [List.map_cons, tot]
        omega
    exact this ws hw
  rw [Int.mul_comm (size n)] at a b
  refine ⟨?_, ?_, nn⟩
  · have := Int.le_of_mul_le_mul_left a hS
    omega
  · rw [← Int.mul_add] at b
    have := Int.le_of_mul_le_mul_left b hS
    omega

-- ------------------------------------------------ rows, by what lies ahead and behind
theorem rd_mid (A : List Int) (b : Int) (B : List Int) : rd (A ++ b :: B) (A.length : Int) = b := by
  unfold rd
  simp
theorem set_mid (A : List Int) (b v : Int) (B : List Int) : (A ++ b :: B).set ((A.length : Int)).toNat v = A ++ v :: B := by
  simp

-- ------------------------------------------------ package money
theorem pos_le (l : List Int) : pos l ≤ l.length := by
  induction l with
  | nil => simp [pos]
  | cons x l ih => unfold pos; rw [List.length_cons]; split <;> omega
theorem step_v {s b : Int} (hs : s = 1 ∨ s = -1) (h0 : 0 ≤ b) (h1 : b ≤ 10000000000000) : wrap64 (s * b + s) = s * (b + 1) := by
  rcases hs with rfl | rfl <;> (rw [w64 (by omega) (by omega)]; omega)
theorem step_u {s L : Int} (hs : s = 1 ∨ s = -1) (h0 : 0 ≤ L) (h1 : L ≤ 600) : wrap64 (s * L - s) = s * (L - 1) := by
  rcases hs with rfl | rfl <;> (rw [w64 (by omega) (by omega)]; omega)
theorem next_at {a n : Nat} (h : a + 1 < n) (hn : n ≤ 600) : Int.tmod (wrap64 ((a : Int) + 1)) (n : Int) = ((a + 1 : Nat) : Int) := by
  rw [w64 (by omega) (by omega), tm_nn (by omega), Int.emod_eq_of_lt (by omega) (by omega)]
  omega
theorem l2_stop {s : Int} {ws : List Int} (W A B : List Int) (j : Int) {k : Nat} (hk : 1 ≤ k) : money_Split.l2 k ws s (A ++ B.map (s * ·)) (s * 0) j = some (A ++ (dist W B 0).map (s * ·), 0) := by
  obtain ⟨k, rfl⟩ : ∃ m, k = m + 1 := ⟨k - 1, by omega⟩
  rw [money_Split.l2, if_pos (Int.mul_zero s), dist_zero]
/-- one place: one goes to it, or none -/
theorem l2_step {s : Int} (hs : s = 1 ∨ s = -1) {w b L : Int} {V W A B : List Int} (hl : A.length + W.length + 1 ≤ 600) (e2 : V.length = A.length) (e3 : W.length = B.length) (h0 : 0 < L) (h1 : L ≤ 600) (hb : 0 ≤ b ∧ b ≤ 10000000000000) (hw : 0 ≤ w) (k : Nat) :
    money_Split.l2 (k + 1) (V ++ w :: W) s (A ++ (b :: B).map (s * ·)) (s * L) A.length =
      if 0 < w then money_Split.l2 k (V ++ w :: W) s ((A ++ [s * (b + 1)]) ++ B.map (s * ·)) (s * (L - 1)) (Int.tmod (wrap64 ((A.length : Int) + 1)) ((V ++ w :: W).length : Int))
      else money_Split.l2 k (V ++ w :: W) s ((A ++ [s * b]) ++ B.map (s * ·)) (s * L) (Int.tmod (wrap64 ((A.length : Int) + 1)) ((V ++ w :: W).length : Int)) := by
  have nz : s * L ≠ 0 := by rcases hs with rfl | rfl <;> omega
  have lv : (V ++ w :: W).length = A.length + W.length + 1 := by simp; omega
  have la : (A ++ (b :: B).map (s * ·)).length = A.length + W.length + 1 := by simp; omega
  have rw1 : rd (V ++ w :: W) (A.length : Int) = w := by rw [← e2]; exact rd_mid V w W
  rw [money_Split.l2, if_neg nz, if_pos (by omega), lv, if_pos (by omega), rw1, la]
  by_cases c : 0 < w
  · rw [if_pos c, if_pos c, if_pos (by omega), if_neg (by omega), List.map_cons, rd_mid, set_mid, step_v hs hb.1 hb.2, step_u hs (by omega) h1]
    simp
  · rw [if_neg c, if_neg c, if_neg (by omega)]
    simp
theorem l2_run {s : Int} (hs : s = 1 ∨ s = -1) : ∀ (W V A B : List Int) (L : Int) (j : Int) (k : Nat), (V ++ W).length ≤ 600 → (∀ w ∈ W, okw w) → V.length = A.length → W.length = B.length → 0 ≤ L → L ≤ pos W →
    (∀ b ∈ B, 0 ≤ b ∧ b ≤ 10000000000000) → (0 < L → j = A.length) → W.length + 1 ≤ k → money_Split.l2 k (V ++ W) s (A ++ B.map (s * ·)) (s * L) j = some (A ++ (dist W B L).map (s * ·), 0) := by
  intro W
  induction W with
  | nil =>
    intro V A B L j k hl h e2 e3 h0 h1 hB hj hk
    have : L = 0 := by unfold pos at h1; omega
    subst this
    exact l2_stop [] A B j (by omega)
  | cons w W ih =>
    intro V A B L j k hl h e2 e3 h0 h1 hB hj hk
    by_cases c : L = 0
    · subst c
      exact l2_stop (w :: W) A B j (by omega)
    obtain ⟨k, rfl⟩ : ∃ m, k = m + 1 := ⟨k - 1, by omega⟩
    cases B with
    | nil => simp at e3
    | cons b B =>
      have hw := h w (by simp)
      have e3' : W.length = B.length := by simpa using e3
      have hp := pos_le (w :: W)
      rw [List.length_append, List.length_cons] at hl
      rw [List.length_cons] at hp hk
      rw [hj (by omega), l2_step hs (by omega) e2 e3' (by omega) (by omega) (hB b (by simp)) hw.1]
      have hlW : 0 < pos W → A.length + 1 < (V ++ w :: W).length := by
        intro hx
        have := pos_le W
        rw [List.length_append, List.length_cons]
        omega
      have hl' : ((V ++ [w]) ++ W).length ≤ 600 := by simp; omega
      have hB' : ∀ x ∈ B, 0 ≤ x ∧ x ≤ 10000000000000 := fun x hx => hB x (List.mem_cons_of_mem b hx)
      have h' : ∀ x ∈ W, okw x := fun x hx => h x (List.mem_cons_of_mem w hx)
      have lv : (V ++ w :: W).length ≤ 600 := by rw [List.length_append, List.length_cons]; omega
      rw [show V ++ w :: W = (V ++ [w]) ++ W by simp] at hlW lv ⊢
      rw [pos] at h1
      by_cases c1 : 0 < w
      · rw [if_pos c1] at h1 ⊢
        rw [ih (V ++ [w]) (A ++ [s * (b + 1)]) B (L - 1) _ k hl' h' (by simp [e2]) e3' (by omega) (by omega) hB' (fun hx => by
          rw [next_at (hlW (by omega)) lv]
          simp) (by omega)]
        rw [dist, if_pos ⟨c1, by omega⟩]
        simp
      · rw [if_neg c1] at h1 ⊢
        rw [ih (V ++ [w]) (A ++ [s * b]) B L _ k hl' h' (by simp [e2]) e3' h0 (by omega) hB' (fun hx => by
          rw [next_at (hlW (by omega)) lv]
          simp) (by omega)]
        rw [dist, if_neg (fun h => c1 h.1)]
        simp

theorem l1_run {n : Int} {ws : List Int} (h : good n ws) : ∀ (W V : List Int) (k : Nat), ws = V ++ W → W.length + ws.length + 40 ≤ k →
    money_Split.l1 k n ws (tot ws) (one n) ((quos n V (tot ws)).map (one n * ·)) (n - one n * tot (quos n V (tot ws))) ws ws.length V.length = some (parts n ws, 0) := by
  have hg := h
  obtain ⟨g1, g2, g3, g4, g5⟩ := h
  have hS : 0 < tot ws := by have := tot_nn g4; omega
  have hS1 := tot_le g4
  have hs := one_or n
  have n0 : 0 ≤ size n := by unfold size; split <;> omega
  have n1 : size n ≤ 10000000000000 := by unfold size; unfold may at g3; split <;> omega
  intro W
  induction W with
  | nil =>
    intro V k e hk
    obtain ⟨k, rfl⟩ : ∃ m, k = m + 1 := ⟨k - 1, by omega⟩
    rw [List.append_nil] at e
    subst e
    simp only [money_Split.l1]
    rw [if_neg (by omega)]
    have e1 : n - one n * tot (quos n ws (tot ws)) = one n * (size n - tot (quos n ws (tot ws))) := by rw [Int.mul_sub, one_size]
    rw [e1]
    have := l2_run hs ws [] [] (quos n ws (tot ws)) (size n - tot (quos n ws (tot ws))) 0 k (by simpa using g2) g4 (by simp) (by simp [quos]) (left_bd hg).1 (left_bd hg).2.1 (by
      intro b hb
      unfold quos at hb
      obtain ⟨w, hw, rfl⟩ := List.mem_map.1 hb
      have := quo_bd g3 (g4 w hw) hS (mem_le g4 hw)
      omega) (by simp) (by omega)
    simpa [parts] using this
  | cons w W ih =>
    intro V k e hk
    obtain ⟨k, rfl⟩ : ∃ m, k = m + 1 := ⟨k - 1, by omega⟩
    have lw : ws.length = V.length + W.length + 1 := by rw [e]; simp; omega
    have hw : w ∈ ws := by rw [e]; simp
    have hok := g4 w hw
    have hok' := hok
    obtain ⟨o0, o1⟩ := hok'
    have qb := quo_bd g3 hok hS (mem_le g4 hw)
    simp only [money_Split.l1]
    rw [if_pos (by omega), if_pos (by omega), if_pos (by omega), show rd ws (V.length : Int) = w by rw [e]; exact rd_mid V w W]
    rw [show money_size_int64.f n = some (size n) from XMoney.size (by unfold may at g3; constructor <;> omega)]
    simp only [Option.bind_some]
    rw [wu_id (n := w) o0 (by omega), mul64 n0 (by omega) o0 (by omega)]
    simp only [Option.bind_some]
    have hm : 0 ≤ size n * w := Int.mul_nonneg n0 o0
    have hm1 : size n * w < 18446744073709551616 * tot ws := by
      have a : size n * w ≤ size n * tot ws := Int.mul_le_mul_of_nonneg_left (mem_le g4 hw) n0
      have b : size n * tot ws < 18446744073709551616 * tot ws := Int.mul_lt_mul_of_pos_right (by omega) hS
      omega
    have hq : size n * w / 18446744073709551616 * 18446744073709551616 + size n * w % 18446744073709551616 = size n * w := by omega
    rw [wu_id (n := tot ws) (by omega) (by omega), div64 (by omega) (by omega) (by omega) (by omega) (by omega) (by omega), hq]
    simp only [Option.bind_some]
    rw [if_pos (by simp [quos]; omega), w64 (n := size n * w / tot ws) (by omega) (by omega)]
    have hT : 0 ≤ tot (quos n V (tot ws)) ∧ tot (quos n V (tot ws)) ≤ 10000000000000 * V.length := by
      have : ∀ x ∈ quos n V (tot ws), okw x := by
        intro b hb
        unfold quos at hb
        obtain ⟨v, hv, rfl⟩ := List.mem_map.1 hb
        have hv' : v ∈ ws := by rw [e]; simp [hv]
        have := quo_bd g3 (g4 v hv') hS (mem_le g4 hv')
        unfold okw
        omega
      refine ⟨tot_nn this, ?_⟩
      have := tot_le this
      simpa [quos] using this
    have e2 : wrap64 (one n * (size n * w / tot ws)) = one n * (size n * w / tot ws) := by
      rcases hs with hs | hs <;> rw [hs] <;> exact w64 (by omega) (by omega)
    have e3 : quos n (V ++ [w]) (tot ws) = quos n V (tot ws) ++ [size n * w / tot ws] := by simp [quos]
    have e4 : wrap64 (n - one n * tot (quos n V (tot ws)) - one n * (size n * w / tot ws)) = n - one n * tot (quos n (V ++ [w]) (tot ws)) := by
      rw [e3, tot_append]
      simp only [tot]
      unfold may at g3
      rcases hs with hs | hs <;> rw [hs] <;> (rw [w64 (by omega) (by omega)]; omega)
    rw [e2, e4, w64 (n := (V.length : Int) + 1) (by omega) (by omega)]
    have := ih (V ++ [w]) k (by rw [e]; simp) (by simp at hk; omega)
    rw [e3] at this ⊢
    simpa using this

theorem l0_run {n : Int} {ws : List Int} (hl : ws.length ≤ 600) (hn : ws.length ≠ 0) (hm : may n) : ∀ (W V : List Int) (k : Nat), ws = V ++ W → (∀ v ∈ V, okw v) → W.length + 2 * ws.length + 50 ≤ k →
    money_Split.l0 k n ws (tot V) ws ws.length V.length = some (splitS n ws) := by
  intro W
  induction W with
  | nil =>
    intro V k e hV hk
    obtain ⟨k, rfl⟩ : ∃ m, k = m + 2 := ⟨k - 2, by omega⟩
    rw [List.append_nil] at e
    subst e
    simp only [money_Split.l0]
    rw [if_neg (by omega)]
    by_cases c : tot ws = 0
    · rw [if_pos c]
      unfold splitS
      rw [if_neg (by unfold good; omega)]
    · rw [if_neg c]
      have g : good n ws := ⟨hn, hl, hm, hV, c⟩
      have : ∀ s, s = one n → money_Split.j2 (k + 1) n ws (tot ws) s = some (splitS n ws) := by
        intro s hs
        subst hs
        simp only [money_Split.j2]
        unfold splitS
        rw [if_pos g]
        have := l1_run g ws [] k (by simp) (by omega)
        simpa [quos, tot] using this
      unfold one at this
      by_cases d : n < 0
      · rw [if_pos d]
        exact this _ (by rw [if_pos d])
      · rw [if_neg d]
        exact this _ (by rw [if_neg d])
  | cons w W ih =>
    intro V k e hV hk
    obtain ⟨k, rfl⟩ : ∃ m, k = m + 1 := ⟨k - 1, by omega⟩
    have lw : ws.length = V.length + W.length + 1 := by rw [e]; simp; omega
    have hw : w ∈ ws := by rw [e]; simp
    have no : ¬okw w → splitS n ws = ([], 2) := by
      intro h
      unfold splitS
      rw [if_neg (fun g => h (g.2.2.2.1 w hw))]
    simp only [money_Split.l0]
    rw [if_pos (by omega), if_pos (by omega), if_pos (by omega), show rd ws (V.length : Int) = w by rw [e]; exact rd_mid V w W]
    by_cases c : w < 0
    · rw [if_pos c, no (by unfold okw; omega)]
    · rw [if_neg c, XMoney.may]
      simp only [Option.bind_some]
      by_cases d : w ≤ 10000000000000
      · rw [if_pos (by rw [decide_eq_true_iff]; omega), w64 (n := (V.length : Int) + 1) (by omega) (by omega)]
        have t := tot_le hV
        have t0 := tot_nn hV
        rw [w64 (n := tot V + w) (by omega) (by omega)]
        have := ih (V ++ [w]) k (by rw [e]; simp) (by
          intro v hv
          rcases List.mem_append.1 hv with hv | hv
          · exact hV v hv
          · rw [List.mem_singleton.1 hv]; unfold okw; omega) (by simp at hk; omega)
        rw [tot_append] at this
        simpa [tot] using this
      · rw [if_neg (by rw [decide_eq_true_iff]; omega), no (by unfold okw; omega)]

theorem split {n : Int} {ws : List Int} {k : Nat} (hk : 3 * ws.length + 60 ≤ k) : money_Split.f k n ws = some (splitS n ws) := by
  obtain ⟨k, rfl⟩ : ∃ m, k = m + 1 := ⟨k - 1, by omega⟩
  unfold money_Split.f
  have no : ¬(ws.length ≠ 0 ∧ ws.length ≤ 600 ∧ may n) → splitS n ws = ([], 2) := by
    intro h
    unfold splitS
    rw [if_neg (fun g => h ⟨g.1, g.2.1, g.2.2.1⟩)]
  by_cases c : (ws.length : Int) = 0
  · rw [if_pos c, no (by omega)]
    simp only [money_Split.j0, if_true]
  rw [if_neg c]
  by_cases d : (ws.length : Int) > 600
  · rw [if_pos d, no (by omega)]
    simp only [money_Split.j0, if_true]
  rw [if_neg d, XMoney.may]
  simp only [Option.bind_some]
  by_cases e : may n
  · unfold may at e
    rw [decide_eq_true e]
    simp only [money_Split.j0, Bool.not_true, Bool.false_eq_true, if_false]
    have := l0_run (n := n) (ws := ws) (by omega) (by omega) e ws [] k (by simp) (by simp) (by omega)
    simpa [tot] using this
  · rw [no (fun h => e h.2.2)]
    unfold may at e
    rw [decide_eq_false e]
    simp only [money_Split.j0, Bool.not_false, if_true]
end Go.Proofs.Ytohbdjfabghagaa.XSplit
end

section
namespace Go.Proofs.Ytohbdjfabghagaa.XScale
set_option linter.unusedVariables false
set_option linter.unusedSimpArgs false
open Go.RowKit Go.Proofs.Ytohbdjfabghagaa.S Go.Proofs.Ytohbdjfabghagaa.XNum Go.Proofs.Ytohbdjfabghagaa.XWide Go.Proofs.Ytohbdjfabghagaa.XSum Go.Proofs.Ytohbdjfabghagaa.XSplit Go.Proofs.YtohbdjfabghagaaW.PrintWords

theorem size_neg (n : Int) : size (-n) = size n := by
  unfold size
  split <;> split <;> omega
theorem one_neg {n : Int} (h : n ≠ 0) : one (-n) = -one n := by
  unfold one
  split <;> split <;> omega
theorem parts_neg (n : Int) (ws : List Int) : parts (-n) ws = (parts n ws).map (fun x => -x) := by
  by_cases h : n = 0
  · subst h
    have hq : quos 0 ws (tot ws) = ws.map fun _ => 0 := by
      unfold quos size
      exact List.map_congr_left (fun w _ => by simp)
    have ht : ∀ l : List Int, tot (l.map fun _ => (0 : Int)) = 0 := by
      intro l
      induction l with
      | nil => rfl
      | cons x l ih => rw [List.map_cons, tot, ih]; rfl
    have hd : dist ws (quos 0 ws (tot ws)) (size 0 - tot (quos 0 ws (tot ws))) = ws.map fun _ => 0 := by
      rw [hq, ht]
      exact dist_zero ws _
    unfold parts
    rw [show (-(0 : Int)) = 0 from rfl, hd]
    simp [List.map_map]
  · have hq : quos (-n) ws (tot ws) = quos n ws (tot ws) := by
      unfold quos
      rw [size_neg]
    unfold parts
    rw [hq, size_neg, one_neg h, List.map_map]
    exact List.map_congr_left (fun x _ => by simp [Int.neg_mul])
theorem split_neg {n : Int} {ws l : List Int} (h : splitS n ws = (l, 0)) : splitS (-n) ws = (l.map (fun x => -x), 0) := by
  unfold splitS at h ⊢
  by_cases g : good n ws
  · rw [if_pos g] at h
    have hl : parts n ws = l := congrArg Prod.fst h
    have g' : good (-n) ws := ⟨g.1, g.2.1, by have := g.2.2.1; unfold may at *; omega, g.2.2.2⟩
    rw [if_pos g', parts_neg, hl]
  · rw [if_neg g] at h
    exact absurd (congrArg Prod.snd h) (by simp)
theorem tot_times (s : Int) (l : List Int) : tot (l.map (· * s)) = tot l * s := by
  induction l with
  | nil => simp [tot]
  | cons x l ih => rw [List.map_cons, tot, tot, ih, Int.add_mul]
theorem dist_times {s : Int} (hs : 0 < s) : ∀ (ws qs : List Int) (L : Int), (∀ w ∈ ws, 0 ≤ w) → dist (ws.map (· * s)) qs L = dist ws qs L := by
  intro ws
  induction ws with
  | nil => intro qs L _; rfl
  | cons w ws ih =>
    intro qs L hw
    cases qs with
    | nil => simp [dist]
    | cons q qs =>
      have h0 := hw w (by simp)
      have e : (0 < w * s) ↔ 0 < w := by
        constructor
        · intro h
          rcases Int.lt_or_le 0 w with c | c
          · exact c
          · have : w = 0 := by omega
            rw [this, Int.zero_mul] at h
            omega
        · intro h
          exact Int.mul_pos h hs
      rw [List.map_cons, dist, dist]
      by_cases c : 0 < w ∧ 0 < L
      · rw [if_pos c, if_pos ⟨e.2 c.1, c.2⟩, ih _ _ (fun x hx => hw x (by simp [hx]))]
      · rw [if_neg c, if_neg (fun g => c ⟨e.1 g.1, g.2⟩), ih _ _ (fun x hx => hw x (by simp [hx]))]
theorem parts_times {n s : Int} {ws : List Int} (hs : 0 < s) (hw : ∀ w ∈ ws, 0 ≤ w) : parts n (ws.map (· * s)) = parts n ws := by
  have hq : quos n (ws.map (· * s)) (tot (ws.map (· * s))) = quos n ws (tot ws) := by
    unfold quos
    rw [tot_times, List.map_map]
    refine List.map_congr_left (fun w _ => ?_)
    show size n * (w * s) / (tot ws * s) = _
    rw [← Int.mul_assoc, Int.mul_ediv_mul_of_pos_left _ _ hs]
  unfold parts
  rw [hq, dist_times hs _ _ _ hw]
theorem split_times {n s : Int} {ws l : List Int} (hs : 0 < s) (h : splitS n ws = (l, 0)) : splitS n (ws.map (· * s)) = ([], 2) ∨ splitS n (ws.map (· * s)) = (l, 0) := by
  unfold splitS at h ⊢
  by_cases g : good n ws
  · rw [if_pos g] at h
    have hl : parts n ws = l := congrArg Prod.fst h
    by_cases g' : good n (ws.map (· * s))
    · right
      rw [if_pos g', parts_times hs (fun w hw => (g.2.2.2.1 w hw).1), hl]
    · left
      rw [if_neg g']
  · rw [if_neg g] at h
    exact absurd (congrArg Prod.snd h) (by simp)
theorem dist_len : ∀ (ws qs : List Int) (L : Int), (dist ws qs L).length = qs.length := by
  intro ws
  induction ws with
  | nil => intro qs L; unfold dist; rfl
  | cons w ws ih =>
    intro qs L
    cases qs with
    | nil => unfold dist; rfl
    | cons q qs =>
      unfold dist
      split <;> simp [ih]
theorem dist_at : ∀ (ws qs : List Int) (L : Int) (i : Nat) (h : i < qs.length) (h' : i < ws.length) (h2 : i < (dist ws qs L).length), (dist ws qs L)[i] = qs[i] ∨ ((dist ws qs L)[i] = qs[i] + 1 ∧ 0 < ws[i]) := by
  intro ws
  induction ws with
  | nil => intro qs L i _ h'; simp at h'
  | cons w ws ih =>
    intro qs L i h h' h2
    cases qs with
    | nil => simp at h
    | cons q qs =>
      unfold dist
      rw [List.length_cons] at h h'
      cases i with
      | zero =>
        by_cases c : 0 < w ∧ 0 < L
        · right
          simp [c]
        · left
          simp [c]
      | succ i =>
        by_cases c : 0 < w ∧ 0 < L
        · have := ih qs (L - 1) i (by omega) (by omega) (by rw [dist_len]; omega)
          simpa [c] using this
        · have := ih qs L i (by omega) (by omega) (by rw [dist_len]; omega)
          simpa [c] using this
section
variable {n : Int} {ws : List Int}
theorem parts_len : (parts n ws).length = ws.length := by simp [parts, dist_len, quos]
/-- a part: the quotient, or one more, where the weight isn't 0 -/
theorem parts_at (h : good n ws) (i : Nat) (hi : i < ws.length) : ∃ d : Int, (d = 0 ∨ d = 1 ∧ 0 < ws[i]) ∧ rd (parts n ws) (i : Int) = one n * (size n * ws[i] / tot ws + d) ∧ (n = 0 → rd (parts n ws) (i : Int) = 0) := by
  have hp : i < (parts n ws).length := by rw [parts_len]; exact hi
  have hd : i < (dist ws (quos n ws (tot ws)) (size n - tot (quos n ws (tot ws)))).length := by rw [dist_len]; simp [quos]; exact hi
  have hq : i < (quos n ws (tot ws)).length := by simp [quos]; exact hi
  have e : (quos n ws (tot ws))[i] = size n * ws[i] / tot ws := by simp [quos]
  have z : n = 0 → rd (parts n ws) (i : Int) = 0 := by
    intro hn
    rw [rd_lt hp]
    have q0 : quos n ws (tot ws) = List.replicate ws.length 0 := by
      subst hn
      unfold quos size
      simp [List.map_const']
    have t0 : ∀ m : Nat, tot (List.replicate m 0) = 0 := by
      intro m
      induction m with
      | zero => rfl
      | succ m ih => rw [List.replicate_succ, tot, ih]; rfl
    have : parts n ws = List.replicate ws.length 0 := by
      unfold parts
      rw [q0, t0, show size n - 0 = 0 by subst hn; decide, dist_zero]
      simp
    simp only [this]
    simp
  rcases dist_at ws (quos n ws (tot ws)) (size n - tot (quos n ws (tot ws))) i hq hi hd with f | ⟨f, g⟩
  · refine ⟨0, .inl rfl, ?_, z⟩
    rw [rd_lt hp]
    simp only [parts, List.getElem_map, f, e, Int.add_zero]
  · refine ⟨1, .inr ⟨rfl, g⟩, ?_, z⟩
    rw [rd_lt hp]
    simp only [parts, List.getElem_map, f, e]
theorem parts_bd (h : good n ws) (i : Nat) (hi : i < ws.length) : -10000000000001 ≤ rd (parts n ws) (i : Int) ∧ rd (parts n ws) (i : Int) ≤ 10000000000001 := by
  obtain ⟨d, hd, e, _⟩ := parts_at h i hi
  obtain ⟨g1, g2, g3, g4, g5⟩ := h
  have hS : 0 < tot ws := by have := tot_nn g4; omega
  have hm : ws[i] ∈ ws := List.getElem_mem hi
  have := quo_bd g3 (g4 _ hm) hS (mem_le g4 hm)
  have : size n ≤ 10000000000000 := by unfold size; unfold may at g3; split <;> omega
  rw [e]
  rcases one_or n with o | o <;> rw [o] <;> omega
end
theorem split_good {n : Int} {ws l : List Int} (h : splitS n ws = (l, 0)) : good n ws ∧ l = parts n ws := by
  unfold splitS at h
  by_cases g : good n ws
  · rw [if_pos g] at h
    exact ⟨g, (congrArg Prod.fst h).symm⟩
  · rw [if_neg g] at h
    exact absurd (congrArg Prod.snd h) (by simp)
theorem take_more {α : Type} {f : Int → α} {l : List Int} {i : Nat} (h : i < l.length) : (l.take (i + 1)).map f = (l.take i).map f ++ [f (rd l (i : Int))] := by
  have e : rd l (i : Int) = l[i] := rd_lt h
  rw [List.take_add_one, List.getElem?_eq_getElem h, List.map_append, e]
  rfl
end Go.Proofs.Ytohbdjfabghagaa.XScale
end

section
namespace Go.Proofs.Ytohbdjfabghagaa.MoneyAlive
set_option linter.unusedVariables false
set_option linter.unusedSimpArgs false
open Go.RowKit Go.Proofs.Ytohbdjfabghagaa.S Go.Proofs.Ytohbdjfabghagaa.XNum Go.Proofs.Ytohbdjfabghagaa.XMoney Go.Proofs.Ytohbdjfabghagaa.XSum Go.Proofs.Ytohbdjfabghagaa.XSplit Go.Proofs.YtohbdjfabghagaaW.PrintWords

theorem same_l0 {a b : List Int} (hl : a.length ≤ 1099511627776) : ∀ (A B C D : List Int) (k : Nat), a = C ++ A → b = D ++ B → C = D → A.length = B.length → A.length + 1 ≤ k →
    lombardref01_Same.l0 k a b a.length C.length = some (decide (A = B)) := by
  intro A
  induction A with
  | nil =>
    intro B C D k e1 e2 e3 e4 hk
    obtain ⟨k, rfl⟩ : ∃ m, k = m + 1 := ⟨k - 1, by omega⟩
    have : B = [] := List.eq_nil_of_length_eq_zero e4.symm
    subst this
    simp only [lombardref01_Same.l0]
    rw [if_neg (by rw [e1]; simp)]
    rfl
  | cons x A ih =>
    intro B C D k e1 e2 e3 e4 hk
    obtain ⟨k, rfl⟩ : ∃ m, k = m + 1 := ⟨k - 1, by omega⟩
    cases B with
    | nil => simp at e4
    | cons y B =>
      have la : a.length = C.length + A.length + 1 := by rw [e1]; simp; omega
      have lb : b.length = C.length + A.length + 1 := by rw [e2, ← e3]; simp at e4 ⊢; omega
      simp only [lombardref01_Same.l0]
      rw [if_pos (by omega), if_pos (by omega), if_pos (by omega), if_pos (by omega), show rd a (C.length : Int) = x by rw [e1]; exact rd_mid C x A, show rd b (C.length : Int) = y by rw [e2, ← e3]; exact rd_mid C y B]
      by_cases c : x = y
      · rw [if_pos c, w64 (by omega) (by omega)]
        have := ih B (C ++ [x]) (D ++ [y]) k (by rw [e1]; simp) (by rw [e2]; simp) (by rw [e3, c]) (by simpa using e4) (by simp at hk; omega)
        simp only [List.length_append, List.length_cons, List.length_nil] at this
        rw [show (C.length : Int) + 1 = ((C.length + (0 + 1) : Nat) : Int) by omega, this, c]
        simp
      · rw [if_neg c, decide_eq_false (by simp [c])]

theorem same {a b : List Int} (hl : a.length ≤ 1099511627776) {k : Nat} (hk : a.length + 1 ≤ k) : lombardref01_Same.f k a b = some (decide (a = b)) := by
  unfold lombardref01_Same.f
  by_cases c : (a.length : Int) = (b.length : Int)
  · rw [if_pos c]
    exact same_l0 hl a b [] [] k (by simp) (by simp) rfl (by omega) hk
  · rw [if_neg c, decide_eq_false]
    intro e
    rw [e] at c
    exact c rfl

theorem alive {k : Nat} (hk : 80 ≤ k) : lombardlaw01_alive.f k = some true := by
  unfold lombardlaw01_alive.f
  rw [split (by simp; omega), add ⟨by omega, by omega⟩ ⟨by omega, by omega⟩, sum (by decide) (by simp) (by simp; omega)]
  rw [show splitS 10 [1, 1, 1] = ([4, 3, 3], 0) by decide]
  simp only [Option.bind_some]
  rw [same (by simp) (by simp; omega)]
  decide
end Go.Proofs.Ytohbdjfabghagaa.MoneyAlive
end

section
namespace Go.Proofs.Ytohbdjfabghagaa.S
set_option linter.unusedVariables false
set_option linter.unusedSimpArgs false
open Go.RowKit Go.Proofs.YtohbdjfabghagaaW.PrintWords Go.Proofs.YtohbdjfabghagaaW.PrintLast Go.Proofs.YtohbdjfabghagaaW.PrintMore Go.Proofs.Ytohbdjfabghagaa.XSplit Go.Proofs.Ytohbdjfabghagaa.XScale Go.Proofs.Ytohbdjfabghagaa.MoneyAlive
attribute [local go_sem] max2_int min2_int max_two min_two max_three min_three max_four min_four
attribute [local go_sem] Go.Proofs.Ytohbdjfabghagaa.XWalk.cell2
set_option linter.unusedVariables false
set_option linter.unusedSimpArgs false

/-- Two rows of whole numbers of one's own, in blocks of their own. -/
structure MoneyScales.Two (w0 : World) (M : Nat) (W : World) (vg : Value) (gs : List Int) (vt : Value) (ts : List Int) : Prop where
  og : W.ownsRow M 2 1 vg gs.length (encs (Value.int .i64) gs)
  ot : W.ownsRow M 2 1 vt ts.length (encs (Value.int .i64) ts)
  b : Below M w0 W
  m : M ≤ W.heap.size
  ne : ∀ k, vg.ownBlock = some k → vt.ownBlock ≠ some k
/-- A row of one number, fresh. -/
structure MoneyScales.Fr (W : World) (M : Nat) (vg vt : Value) (b : Nat) (x : Int) : Prop where
  h : W.heap[b]? = some (.cells #[.int .i64 x] 2 (0, 0))
  m : M ≤ b
  g : vg.ownBlock ≠ some b
  t : vt.ownBlock ≠ some b
section
variable {w0 W : World} {M : Nat} {vg vt : Value} {gs ts : List Int}
theorem MoneyScales.Fr.lt {b : Nat} {x : Int} (h : MoneyScales.Fr W M vg vt b x) : b < W.heap.size := (Array.getElem?_eq_some_iff.1 h.h).1
theorem MoneyScales.Fr.row {b : Nat} {x : Int} (h : MoneyScales.Fr W M vg vt b x) : Kd.C (Kd.int .i64) W (some ⟨b, 0, none⟩) ([x] : List Int).length [x] := by
  have o : W.ownsRow M 2 1 (.slice (some ⟨b, 0, none⟩) 1 1) 1 (encs (Value.int .i64) [x]) := ⟨rfl, .inr ⟨b, 1, #[.int .i64 x], rfl, h.m, h.h, Nat.le_refl _, by decide, rfl, rfl⟩⟩
  exact (Kd.R_reads' (Kd.R_of_own (xs := [x]) (ok := fun _ => True) (h1 := fun _ => rfl) o (fun _ _ => trivial))).2.2
theorem MoneyScales.Two.alloc (h : MoneyScales.Two w0 M W vg gs vt ts) (o : Obj) : MoneyScales.Two w0 M (W.alloc o) vg gs vt ts :=
  ⟨pw_own_below h.og (below_alloc (Below.refl _ _) o), pw_own_below h.ot (below_alloc (Below.refl _ _) o), h.b.trans ((below_alloc (Below.refl W.heap.size W) o).mono h.m), by rw [World.size_alloc]; exact Nat.le_succ_of_le h.m, h.ne⟩
theorem MoneyScales.Fr.alloc {b : Nat} {x : Int} (h : MoneyScales.Fr W M vg vt b x) (o : Obj) : MoneyScales.Fr (W.alloc o) M vg vt b x :=
  ⟨((below_alloc (Below.refl W.heap.size W) o).block b h.lt).trans h.h, h.m, h.g, h.t⟩
theorem MoneyScales.Two.fresh (h : MoneyScales.Two w0 M W vg gs vt ts) (x : Int) : MoneyScales.Fr (W.alloc (.cells #[.int .i64 x] 2 (0, 0))) M vg vt W.heap.size x :=
  ⟨blk_new W _, h.m, fun e => Nat.lt_irrefl _ (h.og.lt _ e).2, fun e => Nat.lt_irrefl _ (h.ot.lt _ e).2⟩
theorem MoneyScales.Two.appG {w1 : World} {v1 : Value} {gs' : List Int} (h : MoneyScales.Two w0 M W vg gs vt ts) (ho : w1.ownsRow M 2 1 v1 gs'.length (encs (Value.int .i64) gs')) (hb : Below M w0 w1) (hg : W.grownBy w1 vg.ownBlock) (hat : v1.ownBlock = vg.ownBlock ∨ ∃ b, v1.ownBlock = some b ∧ W.heap.size ≤ b) : MoneyScales.Two w0 M w1 v1 gs' vt ts := by
  refine ⟨ho, h.ot.kept hg ?_, hb, Nat.le_trans h.m hg.size, fun k hk e => ?_⟩
  · cases e : vt.ownBlock with
    | none => exact .inl rfl
    | some k => exact .inr (fun e2 => h.ne k e2.symm e)
  · rcases hat with e2 | ⟨b, e2, hle⟩
    · exact h.ne k (e2 ▸ hk) e
    · rw [e2] at hk
      injection hk with hk
      have := (h.ot.lt k e).2
      omega
theorem MoneyScales.Two.appT {w1 : World} {v1 : Value} {ts' : List Int} (h : MoneyScales.Two w0 M W vg gs vt ts) (ho : w1.ownsRow M 2 1 v1 ts'.length (encs (Value.int .i64) ts')) (hb : Below M w0 w1) (hg : W.grownBy w1 vt.ownBlock) (hat : v1.ownBlock = vt.ownBlock ∨ ∃ b, v1.ownBlock = some b ∧ W.heap.size ≤ b) : MoneyScales.Two w0 M w1 vg gs v1 ts' := by
  refine ⟨h.og.kept hg ?_, ho, hb, Nat.le_trans h.m hg.size, fun k hk e => ?_⟩
  · cases e : vg.ownBlock with
    | none => exact .inl rfl
    | some k => exact .inr (fun e2 => h.ne k e e2.symm)
  · rcases hat with e2 | ⟨b, e2, hle⟩
    · exact h.ne k hk (e2 ▸ e)
    · rw [e2] at e
      injection e with e
      have := (h.og.lt k hk).2
      omega
theorem MoneyScales.Fr.appG {w1 : World} {v1 : Value} {b : Nat} {x : Int} (h : MoneyScales.Fr W M vg vt b x) (hg : W.grownBy w1 vg.ownBlock) (hat : v1.ownBlock = vg.ownBlock ∨ ∃ b, v1.ownBlock = some b ∧ W.heap.size ≤ b) : MoneyScales.Fr w1 M v1 vt b x :=
  ⟨(hg.block b h.lt (fun e => h.g e.symm)).trans h.h, h.m, fun e => by
    rcases hat with e2 | ⟨b', e2, hle⟩
    · exact h.g (e2 ▸ e)
    · rw [e2] at e
      injection e with e
      have := h.lt
      omega, h.t⟩
theorem MoneyScales.Two.rg (h : MoneyScales.Two w0 M W vg gs vt ts) : Kd.R (Kd.int .i64) 2 W M (fun _ => True) vg gs := Kd.R_of_own (h1 := fun _ => rfl) h.og (fun _ _ => trivial)
theorem MoneyScales.Two.rt (h : MoneyScales.Two w0 M W vg gs vt ts) : Kd.R (Kd.int .i64) 2 W M (fun _ => True) vt ts := Kd.R_of_own (h1 := fun _ => rfl) h.ot (fun _ _ => trivial)
end
theorem MoneyScales.opOf {P : Program} {ops : Array Oper} {Q : Exit → Act → World → Prop} {i : Nat} {o : Oper} {K : Act → World → Prop} {a : Act} {w : World} (hi : ops[i]? = some o) (hw : Region.wanted o (yielded ops a.tmps) = true) (t : if Region.wanted o (yielded ops a.tmps) = true then Oper.wp P o a w K Q else K (a.put o.dst undef) w) : wpOp P ops Q i K a w := by
  rw [if_pos hw] at t
  unfold wpOp
  simp only [hi]
  rw [if_pos hw]
  exact Or.inl t
theorem MoneyScales.step {P : Program} {ops : Array Oper} {Q : Exit → Act → World → Prop} {i : Nat} {o : Oper} {K : Act → World → Prop} {a : Act} {w w' : World} {v : Value} (hi : ops[i]? = some o) (hg : o.guard = none) (hr : (execOp a.eval o).run P w = .ok (.value v) w') (h : K (a.put o.dst v) w') : wpOp P ops Q i K a w := by
  have hw : Region.wanted o (yielded ops a.tmps) = true := by simp [Region.wanted, hg]
  unfold wpOp
  simp only [hi]
  rw [if_pos hw]
  refine Or.inl ?_
  unfold Oper.wp
  rw [hr]
  exact h
theorem MoneyScales.norm {P : Program} {md : Region.Mode} {ops : Array Oper} {Q : Exit → Act → World → Prop} {S : World → Prop} {fuel : Nat} {l : Array Bool} {a a' : Act} {w : World} (ha : a = a') (h : wpAnyH P md ops Q S fuel l a' w) : wpAnyH P md ops Q S fuel l a w := ha ▸ h
set_option maxHeartbeats 4000000 in
set_option maxRecDepth 100000 in
theorem lombardlaw01_MoneyScales.walk (a0 : Int) (A1 : Option Addr) (c1 : Nat) (l1 : List Int) (a2 : Int) (w : World) (hp0 : (Lit.int .i64 a0).wf = true) (hr1 : Kd.C (Kd.int .i64) w A1 l1.length l1) (hc1 : l1.length ≤ c1) (hp2 : (Lit.int .u8 a2).wf = true) :
    Calls Try.prog 8 #[.int .i64 a0, .slice A1 l1.length c1, .int .u8 a2] w fun e w' => e = .returned (.bool true) ∧ Below w.heap.size w w' := by
  rw [XNum.wfu8] at hp2
  obtain ⟨k, hk⟩ : ∃ k : Nat, k = 9000 := ⟨_, rfl⟩
  have HAl := Aside0.mk (alive (k := k) (by omega))
  have HP := Aside0.mk hp2
  have HC := Aside0.mk hc1
  have HR := Aside0.mk hr1
  have HK := Aside0.mk hk
  clear hp2 hc1 hr1 hk hp0
  go_enter Try.func8, Try.ntmps8
  go_upto_region 3 with (first | (go_at_call 20; go_must ((with_reducible refine (lombardlaw01_alive.calls k true _ HAl.out).mono ?_)); rintro e W1 ⟨rfl, hb1⟩))
  have Y1 := Aside0.mk hb1
  clear hb1
  by_cases cl : (l1.length : Int) > 200
  · have q0 : decide (200 < (l1.length : Int)) = true := decide_eq_true cl
    have q1 : (200 < l1.length) = True := eq_true (by omega)
    clear cl
    go_wp2
    go_ret
    exact ⟨rfl, by first | exact Y1.out | exact Y1.out.trans ⟨rfl, rfl, rfl, Nat.le_refl _, fun _ _ => rfl⟩⟩
  · have q0 : decide (200 < (l1.length : Int)) = false := decide_eq_false cl
    have q1 : (200 < l1.length) = False := eq_false (by omega)
    have HL := Aside0.mk (show l1.length ≤ 200 by omega)
    clear cl
    obtain ⟨⟨ls, er⟩, hs⟩ : ∃ q, splitS a0 l1 = q := ⟨_, rfl⟩
    have HS := Aside0.mk hs
    have HF := Aside0.mk (show money_Split.f k a0 l1 = some (ls, er) by rw [← hs]; exact split (by have := HK.out; have := HL.out; omega))
    clear hs
    go_upto_region 5 with (fail)
    clear q0 q1
    by_cases ce : er = 0
    · subst ce
      go_upto_region 8 with (first | (go_at_call 24; go_must ((with_reducible refine (money_Split.calls k a0 A1 c1 l1 ls 0 _ (Kd.C_below HR.out Y1.out) HC.out HF.out).mono ?_)); rintro e W2 ⟨v2, rfl, hR2, hb2⟩))
      obtain ⟨A2, c2, rfl, hle2, hC2⟩ := Kd.R_reads hR2
      obtain ⟨hgood, hls⟩ := split_good HS.out
      have hll : ls.length = l1.length := by rw [hls]; exact parts_len
      have HG := Aside0.mk hgood
      have HLS := Aside0.mk hls
      have HLL := Aside0.mk hll
      have X2 := Aside0.mk hC2
      have L2 := Aside0.mk hle2
      have Y2 := Aside0.mk (Y1.out.trans (hb2.mono Y1.out.size))
      have C2 := Aside0.mk (Kd.C_below HR.out Y2.out)
      obtain ⟨s, hs⟩ : ∃ s : Int, a2 + 1 = s := ⟨_, rfl⟩
      have HSS := Aside0.mk (show 1 ≤ s ∧ s ≤ 256 by have := HP.out; omega)
      obtain ⟨M, hM⟩ : ∃ M, M = W2.heap.size := ⟨_, rfl⟩
      have HM := Aside0.mk hM
      have HS2 := Aside0.mk hs
      clear hR2 hC2 hle2 hb2 hgood hls hll hM hs
      go_wp2
      go_loopg [9, 10, 32] (l1.length + 1) (fun kq v9 v10 v32 wr => ∃ i : Nat, v32 = .int .i64 (i : Int) ∧ Aside0 (i + kq = l1.length + 1) ∧ Aside0 (i ≤ l1.length) ∧ Aside0 (MoneyScales.Two W2 M wr v9 ((l1.take i).map (fun x => x * s)) v10 ((ls.take i).map (fun x => -x))))
      case atStart => exact ⟨0, rfl, ⟨by omega⟩, ⟨by omega⟩, ⟨⟨World.ownsRow_nil _ _ _ _, World.ownsRow_nil _ _ _ _, by rw [HM.out]; exact Below.refl _ _, by rw [HM.out]; exact Nat.le_refl _, fun k hk => by simp [Value.ownBlock] at hk⟩⟩⟩
      case round =>
        obtain ⟨i, rfl, HI, HLE, HT⟩ := hrel
        cases gk with
        | zero =>
          exfalso
          exact absurd HI.out (by have := HLE.out; omega)
        | succ kq =>
          by_cases c1 : i < l1.length
          · have q1 : (i < l1.length) = True := eq_true c1
            have HIN := Aside0.mk c1
            obtain ⟨ad, e, hx⟩ := Kd.at_int (Kd.C_below C2.out (by rw [← HM.out]; exact HT.out.b)) (i : Int) (by omega) (by omega)
            subst e
            rw [Int.toNat_natCast] at hx
            have p1 : (0 ≤ (i : Int)) = True := eq_true (by omega)
            have p2 : ((i : Int) < (l1.length : Int)) = True := eq_true (by omega)
            clear c1
            obtain ⟨ad2, e2, hy⟩ := Kd.at_int (Kd.C_below X2.out (by rw [← HM.out]; exact HT.out.b)) (i : Int) (by omega) (by have := HLL.out; have := HIN.out; omega)
            subst e2
            clear hy
            go_upto_region 12 with (fail)
            rename_i K13 hK13
            obtain ⟨gs, hgs⟩ : ∃ g, g = (l1.take i).map (fun x => x * s) := ⟨_, rfl⟩
            obtain ⟨ts, hts⟩ : ∃ g, g = (ls.take i).map (fun x => -x) := ⟨_, rfl⟩
            have ht := HT.out
            rw [← hgs, ← hts] at ht
            have TW := Aside0.mk ht
            have HGS := Aside0.mk hgs
            have HTS := Aside0.mk hts
            have HGL := Aside0.mk (show gs.length ≤ 200 by rw [hgs, List.length_map, List.length_take]; have := HL.out; omega)
            have HTL := Aside0.mk (show ts.length ≤ 200 by rw [hts, List.length_map, List.length_take]; have := HL.out; have := HLL.out; omega)
            clear ht hgs hts HT hx p1 p2
            obtain ⟨x1, hx1⟩ : ∃ x, rd l1 (i : Int) * s = x := ⟨_, rfl⟩
            obtain ⟨x2, hx2⟩ : ∃ x, -rd ls (i : Int) = x := ⟨_, rfl⟩
            have HX1 := Aside0.mk hx1
            have HX2 := Aside0.mk hx2
            have q8 : wrap64 ((i : Int) + 1) = (i : Int) + 1 := by have := HIN.out; have := HL.out; unfold wrap64; omega
            have TAIL : ∀ (W : World) (v1 v2 s43 s51 : Value), MoneyScales.Two W2 M W v1 (gs ++ [x1]) v2 (ts ++ [x2]) → K13 { tmps := #[.int .i64 a0, .slice (some ad) l1.length c1, .int .u8 a2, undef, undef, undef, .bool false, .slice (some ad2) ls.length c2, .int .i64 0, v1, v2, .int .i64 (i : Int), .int .i64 (rd l1 (i : Int)), undef, undef, undef, undef, .bool true, .bool false, .slice (some ad) l1.length c1, .int .i64 (l1.length : Int), .bool false, .tuple #[.slice (some ad2) ls.length c2, .int .i64 0], .int .i64 a0, .slice (some ad) l1.length c1, .tuple #[.slice (some ad2) ls.length c2, .int .i64 0], .slice (some ad2) ls.length c2, .int .i64 0, .int .i64 0, .bool false, .slice (some ad) l1.length c1, .int .i64 (l1.length : Int), .int .i64 (i : Int), .bool true, .int .i64 (i : Int), .pointer (some (ad.add i)), .int .i64 (rd l1 (i : Int)), u9, .int .i64 (rd l1 (i : Int)), .int .u8 a2, .int .i64 a2, .int .i64 s, .int .i64 x1, s43, v1, u10, .slice (some ad2) ls.length c2, .int .i64 (i : Int), .pointer (some (ad2.add i)), .int .i64 (rd ls (i : Int)), .int .i64 x2, s51, v2, u53, undef, undef, undef, undef, undef, undef, undef, undef, undef, undef, undef, undef, undef, undef, undef, undef, undef, undef, undef, undef, undef, undef, undef, undef, undef, undef, undef, undef, undef, undef, undef, undef], defers := [] } W := by
              intro W v1 v2 s43 s51 ht
              have HT2 := Aside0.mk ht
              clear ht hx1 hx2
              refine hK13 _ _ ?_
              go_wp2
              go_roundg kq
              case measure => exact Nat.lt_succ_self kq
              case rel =>
                refine ⟨i + 1, by simp [q8], ⟨by have := HI.out; omega⟩, ⟨by have := HIN.out; omega⟩, ⟨?_⟩⟩
                rw [take_more HIN.out, take_more (f := fun x => -x) (by have := HLL.out; have := HIN.out; omega), ← HGS.out, ← HTS.out, HX1.out, HX2.out]
                exact HT2.out
            have TL := Aside0.mk TAIL
            clear TAIL hK13
            have t1 : wrap64 a2 = a2 := by have := HP.out; unfold wrap64; omega
            have t2 : wrap64 (a2 + 1) = s := by have := HP.out; have := HS2.out; unfold wrap64; omega
            have t3 : wrap64 (rd l1 (i : Int) * s) = x1 := by
              have hm := HG.out.2.2.2.1 (rd l1 (i : Int)) (by rw [Go.Proofs.Ytohbdjfabghagaa.XSum.rd_lt HIN.out]; exact List.getElem_mem _)
              unfold okw at hm
              have h1 := HSS.out
              have h2 : 0 ≤ rd l1 (i : Int) * s := Int.mul_nonneg hm.1 (by omega)
              have h3 : rd l1 (i : Int) * s ≤ 10000000000000 * 256 := Int.mul_le_mul hm.2 h1.2 (by omega) (by omega)
              rw [hx1] at h2 h3 ⊢
              exact Go.Proofs.Ytohbdjfabghagaa.XNum.w64 (by omega) (by omega)
            have t4 : wrap64 (-rd ls (i : Int)) = x2 := by
              have hb := parts_bd HG.out i HIN.out
              rw [← HLS.out] at hb
              rw [← hx2]
              exact Go.Proofs.Ytohbdjfabghagaa.XNum.w64 (by omega) (by omega)
            have p3 : ((i : Int) < (ls.length : Int)) = True := eq_true (by have := HLL.out; have := HIN.out; omega)
            have p4 : (i < ls.length) = True := eq_true (by have := HLL.out; have := HIN.out; omega)
            have t5 : IntKind.i64.wrap a2 = a2 := by rw [i64_w]; exact t1
            have t6 : IntKind.i64.wrap (a2 + 1) = s := by rw [i64_w]; exact t2
            have t7 : IntKind.i64.wrap (rd l1 (i : Int) * s) = x1 := by rw [i64_w]; exact t3
            have t8 : IntKind.i64.wrap (-rd ls (i : Int)) = x2 := by rw [i64_w]; exact t4
            clear hx1 hx2
            refine wp_region_held (S := fun W1 => Below M W2 W1 ∧ M ≤ W1.heap.size) (by kernel_rfl) ?_
            replace TW : Aside0 (MoneyScales.Two W2 M { wr with drawn := wr.drawn + 1 } u9 gs u10 ts) := ⟨⟨TW.out.og, TW.out.ot, TW.out.b.drew, TW.out.m, TW.out.ne⟩⟩
            generalize ({ wr with drawn := wr.drawn + 1 } : World) = V0 at *
            refine wpAnyH_take (i := 0) (v := u9) rfl (by kernel_rfl) (by kernel_rfl) (by kernel_rfl) (fun _ _ _ h => h) (Or.inl ⟨by kernel_rfl, fun W1 hS => by go_simp⟩) ⟨TW.out.b, TW.out.m⟩ ?_
            refine wpAnyH_take (i := 1) (v := .int .i64 (rd l1 (i : Int))) rfl (by kernel_rfl) (by kernel_rfl) (by kernel_rfl) (fun _ _ _ h => h) (Or.inl ⟨by kernel_rfl, fun W1 hS => by go_simp⟩) ⟨TW.out.b, TW.out.m⟩ ?_
            refine wpAnyH_take (i := 2) (v := .int .u8 a2) rfl (by kernel_rfl) (by kernel_rfl) (by kernel_rfl) (fun _ _ _ h => h) (Or.inl ⟨by kernel_rfl, fun W1 hS => by go_simp⟩) ⟨TW.out.b, TW.out.m⟩ ?_
            refine wpAnyH_take (i := 3) (v := .int .i64 a2) rfl (by kernel_rfl) (by kernel_rfl) (by kernel_rfl) (fun _ _ _ h => h) (Or.inl ⟨by kernel_rfl, fun W1 hS => by go_simp⟩) ⟨TW.out.b, TW.out.m⟩ ?_
            refine wpAnyH_take (i := 4) (v := .int .i64 s) rfl (by kernel_rfl) (by kernel_rfl) (by kernel_rfl) (fun _ _ _ h => h) (Or.inl ⟨by kernel_rfl, fun W1 hS => by go_simp⟩) ⟨TW.out.b, TW.out.m⟩ ?_
            refine wpAnyH_take (i := 5) (v := .int .i64 x1) rfl (by kernel_rfl) (by kernel_rfl) (by kernel_rfl) (fun _ _ _ h => h) (Or.inl ⟨by kernel_rfl, fun W1 hS => by go_simp⟩) ⟨TW.out.b, TW.out.m⟩ ?_
            refine wpAnyH_take (i := 8) (v := u10) rfl (by kernel_rfl) (by kernel_rfl) (by kernel_rfl) (fun _ _ _ h => h) (Or.inl ⟨by kernel_rfl, fun W1 hS => by go_simp⟩) ⟨TW.out.b, TW.out.m⟩ ?_
            refine wpAnyH_take (i := 9) (v := .slice (some ad2) ls.length c2) rfl (by kernel_rfl) (by kernel_rfl) (by kernel_rfl) (fun _ _ _ h => h) (Or.inl ⟨by kernel_rfl, fun W1 hS => by go_simp⟩) ⟨TW.out.b, TW.out.m⟩ ?_
            refine wpAnyH_take (i := 10) (v := .int .i64 (i : Int)) rfl (by kernel_rfl) (by kernel_rfl) (by kernel_rfl) (fun _ _ _ h => h) (Or.inl ⟨by kernel_rfl, fun W1 hS => by go_simp⟩) ⟨TW.out.b, TW.out.m⟩ ?_
            refine wpAnyH_take (i := 11) (v := .pointer (some (ad2.add i))) rfl (by kernel_rfl) (by kernel_rfl) (by kernel_rfl) (fun _ _ _ h => h) (Or.inl ⟨by kernel_rfl, fun W1 hS => by go_simp⟩) ⟨TW.out.b, TW.out.m⟩ ?_
            refine wpAnyH_take (i := 12) (v := .int .i64 (rd ls (i : Int))) rfl (by kernel_rfl) (by kernel_rfl) (by kernel_rfl) (fun _ _ _ h => h) (Or.inl ⟨by kernel_rfl, fun W1 hS => by obtain ⟨ad3, e3, hy3⟩ := Kd.at_int (Kd.C_below X2.out (by rw [← HM.out]; exact hS.1)) (i : Int) (by omega) (by have := HLL.out; have := HIN.out; omega); cases e3; rw [Int.toNat_natCast] at hy3; go_simp⟩) ⟨TW.out.b, TW.out.m⟩ ?_
            refine wpAnyH_take (i := 13) (v := .int .i64 x2) rfl (by kernel_rfl) (by kernel_rfl) (by kernel_rfl) (fun _ _ _ h => h) (Or.inl ⟨by kernel_rfl, fun W1 hS => by go_simp⟩) ⟨TW.out.b, TW.out.m⟩ ?_
            refine MoneyScales.norm (a' := { tmps := #[.int .i64 a0, .slice (some ad) l1.length c1, .int .u8 a2, undef, undef, undef, .bool false, .slice (some ad2) ls.length c2, .int .i64 0, u9, u10, .int .i64 (i : Int), .int .i64 (rd l1 (i : Int)), undef, undef, undef, undef, .bool true, .bool false, .slice (some ad) l1.length c1, .int .i64 (l1.length : Int), .bool false, .tuple #[.slice (some ad2) ls.length c2, .int .i64 0], .int .i64 a0, .slice (some ad) l1.length c1, .tuple #[.slice (some ad2) ls.length c2, .int .i64 0], .slice (some ad2) ls.length c2, .int .i64 0, .int .i64 0, .bool false, .slice (some ad) l1.length c1, .int .i64 (l1.length : Int), .int .i64 (i : Int), .bool true, .int .i64 (i : Int), .pointer (some (ad.add i)), .int .i64 (rd l1 (i : Int)), u9, .int .i64 (rd l1 (i : Int)), .int .u8 a2, .int .i64 a2, .int .i64 s, .int .i64 x1, u43, u44, u10, .slice (some ad2) ls.length c2, .int .i64 (i : Int), .pointer (some (ad2.add i)), .int .i64 (rd ls (i : Int)), .int .i64 x2, u51, u52, u53, undef, undef, undef, undef, undef, undef, undef, undef, undef, undef, undef, undef, undef, undef, undef, undef, undef, undef, undef, undef, undef, undef, undef, undef, undef, undef, undef, undef, undef, undef, undef, undef], defers := [] }) (by kernel_rfl) ?_
            refine wpAnyH_all (rs := [6, 14]) (by kernel_rfl) (by simp) ?_
            intro ix hix
            rcases (by simpa using hix : ix = 6 ∨ ix = 14) with rfl | rfl
            · clear hix
              refine MoneyScales.step (v := .slice (some ⟨V0.heap.size, 0, none⟩) 1 1) (w' := V0.alloc (.cells #[.int .i64 x1] 2 (0, 0))) rfl rfl (by go_simp) ?_
              have F1 := Aside0.mk (TW.out.fresh x1)
              replace TW := Aside0.mk (TW.out.alloc (.cells #[.int .i64 x1] 2 (0, 0)))
              generalize V0.heap.size = b1 at *
              generalize V0.alloc (.cells #[.int .i64 x1] 2 (0, 0)) = V0a at *
              refine ⟨⟨TW.out.b, TW.out.m⟩, ?_⟩
              refine MoneyScales.norm (a' := { tmps := #[.int .i64 a0, .slice (some ad) l1.length c1, .int .u8 a2, undef, undef, undef, .bool false, .slice (some ad2) ls.length c2, .int .i64 0, u9, u10, .int .i64 (i : Int), .int .i64 (rd l1 (i : Int)), undef, undef, undef, undef, .bool true, .bool false, .slice (some ad) l1.length c1, .int .i64 (l1.length : Int), .bool false, .tuple #[.slice (some ad2) ls.length c2, .int .i64 0], .int .i64 a0, .slice (some ad) l1.length c1, .tuple #[.slice (some ad2) ls.length c2, .int .i64 0], .slice (some ad2) ls.length c2, .int .i64 0, .int .i64 0, .bool false, .slice (some ad) l1.length c1, .int .i64 (l1.length : Int), .int .i64 (i : Int), .bool true, .int .i64 (i : Int), .pointer (some (ad.add i)), .int .i64 (rd l1 (i : Int)), u9, .int .i64 (rd l1 (i : Int)), .int .u8 a2, .int .i64 a2, .int .i64 s, .int .i64 x1, .slice (some ⟨b1, 0, none⟩) 1 1, u44, u10, .slice (some ad2) ls.length c2, .int .i64 (i : Int), .pointer (some (ad2.add i)), .int .i64 (rd ls (i : Int)), .int .i64 x2, u51, u52, u53, undef, undef, undef, undef, undef, undef, undef, undef, undef, undef, undef, undef, undef, undef, undef, undef, undef, undef, undef, undef, undef, undef, undef, undef, undef, undef, undef, undef, undef, undef, undef, undef], defers := [] }) (by kernel_rfl) ?_
              refine wpAnyH_all (rs := [7, 14]) (by kernel_rfl) (by simp) ?_
              intro ix hix
              rcases (by simpa using hix : ix = 7 ∨ ix = 14) with rfl | rfl
              · clear hix
                refine MoneyScales.opOf rfl (by kernel_rfl) (Kd.R_append_rows_step (Kd.int .i64) (w0 := W2) M (by kernel_rfl) (.tmp 37) (.tmp 43) 36 2 (.int .i64 0) 8 rfl Try.underlying36 info2 rfl (by decide) (by omega) u9 gs [x1] (some ⟨b1, 0, none⟩) 1 1 (fun _ => True) (fun _ => False) rfl rfl TW.out.rg F1.out.row (fun _ _ h => h) (fun _ h => h.elim) (fun _ _ => trivial) TW.out.b TW.out.m (by have := HGL.out; omega) ?_)
                intro v1 V0aa ho hyb hgr hat
                replace TW := Aside0.mk (TW.out.appG (Kd.own_of_R ho) hyb hgr hat)
                clear ho hyb hgr hat
                refine ⟨⟨TW.out.b, TW.out.m⟩, ?_⟩
                refine MoneyScales.norm (a' := { tmps := #[.int .i64 a0, .slice (some ad) l1.length c1, .int .u8 a2, undef, undef, undef, .bool false, .slice (some ad2) ls.length c2, .int .i64 0, u9, u10, .int .i64 (i : Int), .int .i64 (rd l1 (i : Int)), undef, undef, undef, undef, .bool true, .bool false, .slice (some ad) l1.length c1, .int .i64 (l1.length : Int), .bool false, .tuple #[.slice (some ad2) ls.length c2, .int .i64 0], .int .i64 a0, .slice (some ad) l1.length c1, .tuple #[.slice (some ad2) ls.length c2, .int .i64 0], .slice (some ad2) ls.length c2, .int .i64 0, .int .i64 0, .bool false, .slice (some ad) l1.length c1, .int .i64 (l1.length : Int), .int .i64 (i : Int), .bool true, .int .i64 (i : Int), .pointer (some (ad.add i)), .int .i64 (rd l1 (i : Int)), u9, .int .i64 (rd l1 (i : Int)), .int .u8 a2, .int .i64 a2, .int .i64 s, .int .i64 x1, .slice (some ⟨b1, 0, none⟩) 1 1, v1, u10, .slice (some ad2) ls.length c2, .int .i64 (i : Int), .pointer (some (ad2.add i)), .int .i64 (rd ls (i : Int)), .int .i64 x2, u51, u52, u53, undef, undef, undef, undef, undef, undef, undef, undef, undef, undef, undef, undef, undef, undef, undef, undef, undef, undef, undef, undef, undef, undef, undef, undef, undef, undef, undef, undef, undef, undef, undef, undef], defers := [] }) (by kernel_rfl) ?_
                refine wpAnyH_all (rs := [14]) (by kernel_rfl) (by simp) ?_
                intro ix hix
                obtain rfl : ix = 14 := by simpa using hix
                clear hix
                refine MoneyScales.step (v := .slice (some ⟨V0aa.heap.size, 0, none⟩) 1 1) (w' := V0aa.alloc (.cells #[.int .i64 x2] 2 (0, 0))) rfl rfl (by go_simp) ?_
                have F2 := Aside0.mk (TW.out.fresh x2)
                replace TW := Aside0.mk (TW.out.alloc (.cells #[.int .i64 x2] 2 (0, 0)))
                generalize V0aa.heap.size = b2 at *
                generalize V0aa.alloc (.cells #[.int .i64 x2] 2 (0, 0)) = V0aaa at *
                refine ⟨⟨TW.out.b, TW.out.m⟩, ?_⟩
                refine MoneyScales.norm (a' := { tmps := #[.int .i64 a0, .slice (some ad) l1.length c1, .int .u8 a2, undef, undef, undef, .bool false, .slice (some ad2) ls.length c2, .int .i64 0, u9, u10, .int .i64 (i : Int), .int .i64 (rd l1 (i : Int)), undef, undef, undef, undef, .bool true, .bool false, .slice (some ad) l1.length c1, .int .i64 (l1.length : Int), .bool false, .tuple #[.slice (some ad2) ls.length c2, .int .i64 0], .int .i64 a0, .slice (some ad) l1.length c1, .tuple #[.slice (some ad2) ls.length c2, .int .i64 0], .slice (some ad2) ls.length c2, .int .i64 0, .int .i64 0, .bool false, .slice (some ad) l1.length c1, .int .i64 (l1.length : Int), .int .i64 (i : Int), .bool true, .int .i64 (i : Int), .pointer (some (ad.add i)), .int .i64 (rd l1 (i : Int)), u9, .int .i64 (rd l1 (i : Int)), .int .u8 a2, .int .i64 a2, .int .i64 s, .int .i64 x1, .slice (some ⟨b1, 0, none⟩) 1 1, v1, u10, .slice (some ad2) ls.length c2, .int .i64 (i : Int), .pointer (some (ad2.add i)), .int .i64 (rd ls (i : Int)), .int .i64 x2, .slice (some ⟨b2, 0, none⟩) 1 1, u52, u53, undef, undef, undef, undef, undef, undef, undef, undef, undef, undef, undef, undef, undef, undef, undef, undef, undef, undef, undef, undef, undef, undef, undef, undef, undef, undef, undef, undef, undef, undef, undef, undef], defers := [] }) (by kernel_rfl) ?_
                refine wpAnyH_all (rs := [15]) (by kernel_rfl) (by simp) ?_
                intro ix hix
                obtain rfl : ix = 15 := by simpa using hix
                clear hix
                refine MoneyScales.opOf rfl (by kernel_rfl) (Kd.R_append_rows_step (Kd.int .i64) (w0 := W2) M (by kernel_rfl) (.tmp 45) (.tmp 51) 36 2 (.int .i64 0) 8 rfl Try.underlying36 info2 rfl (by decide) (by omega) u10 ts [x2] (some ⟨b2, 0, none⟩) 1 1 (fun _ => True) (fun _ => False) rfl rfl TW.out.rt F2.out.row (fun _ _ h => h) (fun _ h => h.elim) (fun _ _ => trivial) TW.out.b TW.out.m (by have := HTL.out; omega) ?_)
                intro v2 V0aaaa ho hyb hgr hat
                replace TW := Aside0.mk (TW.out.appT (Kd.own_of_R ho) hyb hgr hat)
                clear ho hyb hgr hat
                refine ⟨⟨TW.out.b, TW.out.m⟩, ?_⟩
                refine MoneyScales.norm (a' := { tmps := #[.int .i64 a0, .slice (some ad) l1.length c1, .int .u8 a2, undef, undef, undef, .bool false, .slice (some ad2) ls.length c2, .int .i64 0, u9, u10, .int .i64 (i : Int), .int .i64 (rd l1 (i : Int)), undef, undef, undef, undef, .bool true, .bool false, .slice (some ad) l1.length c1, .int .i64 (l1.length : Int), .bool false, .tuple #[.slice (some ad2) ls.length c2, .int .i64 0], .int .i64 a0, .slice (some ad) l1.length c1, .tuple #[.slice (some ad2) ls.length c2, .int .i64 0], .slice (some ad2) ls.length c2, .int .i64 0, .int .i64 0, .bool false, .slice (some ad) l1.length c1, .int .i64 (l1.length : Int), .int .i64 (i : Int), .bool true, .int .i64 (i : Int), .pointer (some (ad.add i)), .int .i64 (rd l1 (i : Int)), u9, .int .i64 (rd l1 (i : Int)), .int .u8 a2, .int .i64 a2, .int .i64 s, .int .i64 x1, .slice (some ⟨b1, 0, none⟩) 1 1, v1, u10, .slice (some ad2) ls.length c2, .int .i64 (i : Int), .pointer (some (ad2.add i)), .int .i64 (rd ls (i : Int)), .int .i64 x2, .slice (some ⟨b2, 0, none⟩) 1 1, v2, u53, undef, undef, undef, undef, undef, undef, undef, undef, undef, undef, undef, undef, undef, undef, undef, undef, undef, undef, undef, undef, undef, undef, undef, undef, undef, undef, undef, undef, undef, undef, undef, undef], defers := [] }) (by kernel_rfl) ?_
                refine wpAnyH_take (i := 16) (v := v1) rfl (by kernel_rfl) (by kernel_rfl) (by kernel_rfl) (fun _ _ _ h => h) (Or.inl ⟨by kernel_rfl, fun W1 hS => by go_simp⟩) ⟨TW.out.b, TW.out.m⟩ ?_
                refine wpAnyH_take (i := 17) (v := v2) rfl (by kernel_rfl) (by kernel_rfl) (by kernel_rfl) (fun _ _ _ h => h) (Or.inl ⟨by kernel_rfl, fun W1 hS => by go_simp⟩) ⟨TW.out.b, TW.out.m⟩ ?_
                refine MoneyScales.norm (a' := { tmps := #[.int .i64 a0, .slice (some ad) l1.length c1, .int .u8 a2, undef, undef, undef, .bool false, .slice (some ad2) ls.length c2, .int .i64 0, v1, v2, .int .i64 (i : Int), .int .i64 (rd l1 (i : Int)), undef, undef, undef, undef, .bool true, .bool false, .slice (some ad) l1.length c1, .int .i64 (l1.length : Int), .bool false, .tuple #[.slice (some ad2) ls.length c2, .int .i64 0], .int .i64 a0, .slice (some ad) l1.length c1, .tuple #[.slice (some ad2) ls.length c2, .int .i64 0], .slice (some ad2) ls.length c2, .int .i64 0, .int .i64 0, .bool false, .slice (some ad) l1.length c1, .int .i64 (l1.length : Int), .int .i64 (i : Int), .bool true, .int .i64 (i : Int), .pointer (some (ad.add i)), .int .i64 (rd l1 (i : Int)), u9, .int .i64 (rd l1 (i : Int)), .int .u8 a2, .int .i64 a2, .int .i64 s, .int .i64 x1, .slice (some ⟨b1, 0, none⟩) 1 1, v1, u10, .slice (some ad2) ls.length c2, .int .i64 (i : Int), .pointer (some (ad2.add i)), .int .i64 (rd ls (i : Int)), .int .i64 x2, .slice (some ⟨b2, 0, none⟩) 1 1, v2, u53, undef, undef, undef, undef, undef, undef, undef, undef, undef, undef, undef, undef, undef, undef, undef, undef, undef, undef, undef, undef, undef, undef, undef, undef, undef, undef, undef, undef, undef, undef, undef, undef], defers := [] }) (by kernel_rfl) ?_
                refine wpAnyH_done (by kernel_rfl) ?_ _
                exact TL.out _ v1 v2 _ _ TW.out
              · clear hix
                refine MoneyScales.step (v := .slice (some ⟨V0a.heap.size, 0, none⟩) 1 1) (w' := V0a.alloc (.cells #[.int .i64 x2] 2 (0, 0))) rfl rfl (by go_simp) ?_
                have F2 := Aside0.mk (TW.out.fresh x2)
                replace F1 := Aside0.mk (F1.out.alloc (.cells #[.int .i64 x2] 2 (0, 0)))
                replace TW := Aside0.mk (TW.out.alloc (.cells #[.int .i64 x2] 2 (0, 0)))
                generalize V0a.heap.size = b2 at *
                generalize V0a.alloc (.cells #[.int .i64 x2] 2 (0, 0)) = V0aa at *
                refine ⟨⟨TW.out.b, TW.out.m⟩, ?_⟩
                refine MoneyScales.norm (a' := { tmps := #[.int .i64 a0, .slice (some ad) l1.length c1, .int .u8 a2, undef, undef, undef, .bool false, .slice (some ad2) ls.length c2, .int .i64 0, u9, u10, .int .i64 (i : Int), .int .i64 (rd l1 (i : Int)), undef, undef, undef, undef, .bool true, .bool false, .slice (some ad) l1.length c1, .int .i64 (l1.length : Int), .bool false, .tuple #[.slice (some ad2) ls.length c2, .int .i64 0], .int .i64 a0, .slice (some ad) l1.length c1, .tuple #[.slice (some ad2) ls.length c2, .int .i64 0], .slice (some ad2) ls.length c2, .int .i64 0, .int .i64 0, .bool false, .slice (some ad) l1.length c1, .int .i64 (l1.length : Int), .int .i64 (i : Int), .bool true, .int .i64 (i : Int), .pointer (some (ad.add i)), .int .i64 (rd l1 (i : Int)), u9, .int .i64 (rd l1 (i : Int)), .int .u8 a2, .int .i64 a2, .int .i64 s, .int .i64 x1, .slice (some ⟨b1, 0, none⟩) 1 1, u44, u10, .slice (some ad2) ls.length c2, .int .i64 (i : Int), .pointer (some (ad2.add i)), .int .i64 (rd ls (i : Int)), .int .i64 x2, .slice (some ⟨b2, 0, none⟩) 1 1, u52, u53, undef, undef, undef, undef, undef, undef, undef, undef, undef, undef, undef, undef, undef, undef, undef, undef, undef, undef, undef, undef, undef, undef, undef, undef, undef, undef, undef, undef, undef, undef, undef, undef], defers := [] }) (by kernel_rfl) ?_
                refine wpAnyH_all (rs := [7]) (by kernel_rfl) (by simp) ?_
                intro ix hix
                obtain rfl : ix = 7 := by simpa using hix
                clear hix
                refine MoneyScales.opOf rfl (by kernel_rfl) (Kd.R_append_rows_step (Kd.int .i64) (w0 := W2) M (by kernel_rfl) (.tmp 37) (.tmp 43) 36 2 (.int .i64 0) 8 rfl Try.underlying36 info2 rfl (by decide) (by omega) u9 gs [x1] (some ⟨b1, 0, none⟩) 1 1 (fun _ => True) (fun _ => False) rfl rfl TW.out.rg F1.out.row (fun _ _ h => h) (fun _ h => h.elim) (fun _ _ => trivial) TW.out.b TW.out.m (by have := HGL.out; omega) ?_)
                intro v1 V0aaa ho hyb hgr hat
                replace F2 := Aside0.mk (F2.out.appG hgr hat)
                replace TW := Aside0.mk (TW.out.appG (Kd.own_of_R ho) hyb hgr hat)
                clear ho hyb hgr hat
                refine ⟨⟨TW.out.b, TW.out.m⟩, ?_⟩
                refine MoneyScales.norm (a' := { tmps := #[.int .i64 a0, .slice (some ad) l1.length c1, .int .u8 a2, undef, undef, undef, .bool false, .slice (some ad2) ls.length c2, .int .i64 0, u9, u10, .int .i64 (i : Int), .int .i64 (rd l1 (i : Int)), undef, undef, undef, undef, .bool true, .bool false, .slice (some ad) l1.length c1, .int .i64 (l1.length : Int), .bool false, .tuple #[.slice (some ad2) ls.length c2, .int .i64 0], .int .i64 a0, .slice (some ad) l1.length c1, .tuple #[.slice (some ad2) ls.length c2, .int .i64 0], .slice (some ad2) ls.length c2, .int .i64 0, .int .i64 0, .bool false, .slice (some ad) l1.length c1, .int .i64 (l1.length : Int), .int .i64 (i : Int), .bool true, .int .i64 (i : Int), .pointer (some (ad.add i)), .int .i64 (rd l1 (i : Int)), u9, .int .i64 (rd l1 (i : Int)), .int .u8 a2, .int .i64 a2, .int .i64 s, .int .i64 x1, .slice (some ⟨b1, 0, none⟩) 1 1, v1, u10, .slice (some ad2) ls.length c2, .int .i64 (i : Int), .pointer (some (ad2.add i)), .int .i64 (rd ls (i : Int)), .int .i64 x2, .slice (some ⟨b2, 0, none⟩) 1 1, u52, u53, undef, undef, undef, undef, undef, undef, undef, undef, undef, undef, undef, undef, undef, undef, undef, undef, undef, undef, undef, undef, undef, undef, undef, undef, undef, undef, undef, undef, undef, undef, undef, undef], defers := [] }) (by kernel_rfl) ?_
                refine wpAnyH_all (rs := [15]) (by kernel_rfl) (by simp) ?_
                intro ix hix
                obtain rfl : ix = 15 := by simpa using hix
                clear hix
                refine MoneyScales.opOf rfl (by kernel_rfl) (Kd.R_append_rows_step (Kd.int .i64) (w0 := W2) M (by kernel_rfl) (.tmp 45) (.tmp 51) 36 2 (.int .i64 0) 8 rfl Try.underlying36 info2 rfl (by decide) (by omega) u10 ts [x2] (some ⟨b2, 0, none⟩) 1 1 (fun _ => True) (fun _ => False) rfl rfl TW.out.rt F2.out.row (fun _ _ h => h) (fun _ h => h.elim) (fun _ _ => trivial) TW.out.b TW.out.m (by have := HTL.out; omega) ?_)
                intro v2 V0aaaa ho hyb hgr hat
                replace TW := Aside0.mk (TW.out.appT (Kd.own_of_R ho) hyb hgr hat)
                clear ho hyb hgr hat
                refine ⟨⟨TW.out.b, TW.out.m⟩, ?_⟩
                refine MoneyScales.norm (a' := { tmps := #[.int .i64 a0, .slice (some ad) l1.length c1, .int .u8 a2, undef, undef, undef, .bool false, .slice (some ad2) ls.length c2, .int .i64 0, u9, u10, .int .i64 (i : Int), .int .i64 (rd l1 (i : Int)), undef, undef, undef, undef, .bool true, .bool false, .slice (some ad) l1.length c1, .int .i64 (l1.length : Int), .bool false, .tuple #[.slice (some ad2) ls.length c2, .int .i64 0], .int .i64 a0, .slice (some ad) l1.length c1, .tuple #[.slice (some ad2) ls.length c2, .int .i64 0], .slice (some ad2) ls.length c2, .int .i64 0, .int .i64 0, .bool false, .slice (some ad) l1.length c1, .int .i64 (l1.length : Int), .int .i64 (i : Int), .bool true, .int .i64 (i : Int), .pointer (some (ad.add i)), .int .i64 (rd l1 (i : Int)), u9, .int .i64 (rd l1 (i : Int)), .int .u8 a2, .int .i64 a2, .int .i64 s, .int .i64 x1, .slice (some ⟨b1, 0, none⟩) 1 1, v1, u10, .slice (some ad2) ls.length c2, .int .i64 (i : Int), .pointer (some (ad2.add i)), .int .i64 (rd ls (i : Int)), .int .i64 x2, .slice (some ⟨b2, 0, none⟩) 1 1, v2, u53, undef, undef, undef, undef, undef, undef, undef, undef, undef, undef, undef, undef, undef, undef, undef, undef, undef, undef, undef, undef, undef, undef, undef, undef, undef, undef, undef, undef, undef, undef, undef, undef], defers := [] }) (by kernel_rfl) ?_
                refine wpAnyH_take (i := 16) (v := v1) rfl (by kernel_rfl) (by kernel_rfl) (by kernel_rfl) (fun _ _ _ h => h) (Or.inl ⟨by kernel_rfl, fun W1 hS => by go_simp⟩) ⟨TW.out.b, TW.out.m⟩ ?_
                refine wpAnyH_take (i := 17) (v := v2) rfl (by kernel_rfl) (by kernel_rfl) (by kernel_rfl) (fun _ _ _ h => h) (Or.inl ⟨by kernel_rfl, fun W1 hS => by go_simp⟩) ⟨TW.out.b, TW.out.m⟩ ?_
                refine MoneyScales.norm (a' := { tmps := #[.int .i64 a0, .slice (some ad) l1.length c1, .int .u8 a2, undef, undef, undef, .bool false, .slice (some ad2) ls.length c2, .int .i64 0, v1, v2, .int .i64 (i : Int), .int .i64 (rd l1 (i : Int)), undef, undef, undef, undef, .bool true, .bool false, .slice (some ad) l1.length c1, .int .i64 (l1.length : Int), .bool false, .tuple #[.slice (some ad2) ls.length c2, .int .i64 0], .int .i64 a0, .slice (some ad) l1.length c1, .tuple #[.slice (some ad2) ls.length c2, .int .i64 0], .slice (some ad2) ls.length c2, .int .i64 0, .int .i64 0, .bool false, .slice (some ad) l1.length c1, .int .i64 (l1.length : Int), .int .i64 (i : Int), .bool true, .int .i64 (i : Int), .pointer (some (ad.add i)), .int .i64 (rd l1 (i : Int)), u9, .int .i64 (rd l1 (i : Int)), .int .u8 a2, .int .i64 a2, .int .i64 s, .int .i64 x1, .slice (some ⟨b1, 0, none⟩) 1 1, v1, u10, .slice (some ad2) ls.length c2, .int .i64 (i : Int), .pointer (some (ad2.add i)), .int .i64 (rd ls (i : Int)), .int .i64 x2, .slice (some ⟨b2, 0, none⟩) 1 1, v2, u53, undef, undef, undef, undef, undef, undef, undef, undef, undef, undef, undef, undef, undef, undef, undef, undef, undef, undef, undef, undef, undef, undef, undef, undef, undef, undef, undef, undef, undef, undef, undef, undef], defers := [] }) (by kernel_rfl) ?_
                refine wpAnyH_done (by kernel_rfl) ?_ _
                exact TL.out _ v1 v2 _ _ TW.out
            · clear hix
              refine MoneyScales.step (v := .slice (some ⟨V0.heap.size, 0, none⟩) 1 1) (w' := V0.alloc (.cells #[.int .i64 x2] 2 (0, 0))) rfl rfl (by go_simp) ?_
              have F2 := Aside0.mk (TW.out.fresh x2)
              replace TW := Aside0.mk (TW.out.alloc (.cells #[.int .i64 x2] 2 (0, 0)))
              generalize V0.heap.size = b2 at *
              generalize V0.alloc (.cells #[.int .i64 x2] 2 (0, 0)) = V0a at *
              refine ⟨⟨TW.out.b, TW.out.m⟩, ?_⟩
              refine MoneyScales.norm (a' := { tmps := #[.int .i64 a0, .slice (some ad) l1.length c1, .int .u8 a2, undef, undef, undef, .bool false, .slice (some ad2) ls.length c2, .int .i64 0, u9, u10, .int .i64 (i : Int), .int .i64 (rd l1 (i : Int)), undef, undef, undef, undef, .bool true, .bool false, .slice (some ad) l1.length c1, .int .i64 (l1.length : Int), .bool false, .tuple #[.slice (some ad2) ls.length c2, .int .i64 0], .int .i64 a0, .slice (some ad) l1.length c1, .tuple #[.slice (some ad2) ls.length c2, .int .i64 0], .slice (some ad2) ls.length c2, .int .i64 0, .int .i64 0, .bool false, .slice (some ad) l1.length c1, .int .i64 (l1.length : Int), .int .i64 (i : Int), .bool true, .int .i64 (i : Int), .pointer (some (ad.add i)), .int .i64 (rd l1 (i : Int)), u9, .int .i64 (rd l1 (i : Int)), .int .u8 a2, .int .i64 a2, .int .i64 s, .int .i64 x1, u43, u44, u10, .slice (some ad2) ls.length c2, .int .i64 (i : Int), .pointer (some (ad2.add i)), .int .i64 (rd ls (i : Int)), .int .i64 x2, .slice (some ⟨b2, 0, none⟩) 1 1, u52, u53, undef, undef, undef, undef, undef, undef, undef, undef, undef, undef, undef, undef, undef, undef, undef, undef, undef, undef, undef, undef, undef, undef, undef, undef, undef, undef, undef, undef, undef, undef, undef, undef], defers := [] }) (by kernel_rfl) ?_
              refine wpAnyH_all (rs := [6]) (by kernel_rfl) (by simp) ?_
              intro ix hix
              obtain rfl : ix = 6 := by simpa using hix
              clear hix
              refine MoneyScales.step (v := .slice (some ⟨V0a.heap.size, 0, none⟩) 1 1) (w' := V0a.alloc (.cells #[.int .i64 x1] 2 (0, 0))) rfl rfl (by go_simp) ?_
              have F1 := Aside0.mk (TW.out.fresh x1)
              replace F2 := Aside0.mk (F2.out.alloc (.cells #[.int .i64 x1] 2 (0, 0)))
              replace TW := Aside0.mk (TW.out.alloc (.cells #[.int .i64 x1] 2 (0, 0)))
              generalize V0a.heap.size = b1 at *
              generalize V0a.alloc (.cells #[.int .i64 x1] 2 (0, 0)) = V0aa at *
              refine ⟨⟨TW.out.b, TW.out.m⟩, ?_⟩
              refine MoneyScales.norm (a' := { tmps := #[.int .i64 a0, .slice (some ad) l1.length c1, .int .u8 a2, undef, undef, undef, .bool false, .slice (some ad2) ls.length c2, .int .i64 0, u9, u10, .int .i64 (i : Int), .int .i64 (rd l1 (i : Int)), undef, undef, undef, undef, .bool true, .bool false, .slice (some ad) l1.length c1, .int .i64 (l1.length : Int), .bool false, .tuple #[.slice (some ad2) ls.length c2, .int .i64 0], .int .i64 a0, .slice (some ad) l1.length c1, .tuple #[.slice (some ad2) ls.length c2, .int .i64 0], .slice (some ad2) ls.length c2, .int .i64 0, .int .i64 0, .bool false, .slice (some ad) l1.length c1, .int .i64 (l1.length : Int), .int .i64 (i : Int), .bool true, .int .i64 (i : Int), .pointer (some (ad.add i)), .int .i64 (rd l1 (i : Int)), u9, .int .i64 (rd l1 (i : Int)), .int .u8 a2, .int .i64 a2, .int .i64 s, .int .i64 x1, .slice (some ⟨b1, 0, none⟩) 1 1, u44, u10, .slice (some ad2) ls.length c2, .int .i64 (i : Int), .pointer (some (ad2.add i)), .int .i64 (rd ls (i : Int)), .int .i64 x2, .slice (some ⟨b2, 0, none⟩) 1 1, u52, u53, undef, undef, undef, undef, undef, undef, undef, undef, undef, undef, undef, undef, undef, undef, undef, undef, undef, undef, undef, undef, undef, undef, undef, undef, undef, undef, undef, undef, undef, undef, undef, undef], defers := [] }) (by kernel_rfl) ?_
              refine wpAnyH_all (rs := [7]) (by kernel_rfl) (by simp) ?_
              intro ix hix
              obtain rfl : ix = 7 := by simpa using hix
              clear hix
              refine MoneyScales.opOf rfl (by kernel_rfl) (Kd.R_append_rows_step (Kd.int .i64) (w0 := W2) M (by kernel_rfl) (.tmp 37) (.tmp 43) 36 2 (.int .i64 0) 8 rfl Try.underlying36 info2 rfl (by decide) (by omega) u9 gs [x1] (some ⟨b1, 0, none⟩) 1 1 (fun _ => True) (fun _ => False) rfl rfl TW.out.rg F1.out.row (fun _ _ h => h) (fun _ h => h.elim) (fun _ _ => trivial) TW.out.b TW.out.m (by have := HGL.out; omega) ?_)
              intro v1 V0aaa ho hyb hgr hat
              replace F2 := Aside0.mk (F2.out.appG hgr hat)
              replace TW := Aside0.mk (TW.out.appG (Kd.own_of_R ho) hyb hgr hat)
              clear ho hyb hgr hat
              refine ⟨⟨TW.out.b, TW.out.m⟩, ?_⟩
              refine MoneyScales.norm (a' := { tmps := #[.int .i64 a0, .slice (some ad) l1.length c1, .int .u8 a2, undef, undef, undef, .bool false, .slice (some ad2) ls.length c2, .int .i64 0, u9, u10, .int .i64 (i : Int), .int .i64 (rd l1 (i : Int)), undef, undef, undef, undef, .bool true, .bool false, .slice (some ad) l1.length c1, .int .i64 (l1.length : Int), .bool false, .tuple #[.slice (some ad2) ls.length c2, .int .i64 0], .int .i64 a0, .slice (some ad) l1.length c1, .tuple #[.slice (some ad2) ls.length c2, .int .i64 0], .slice (some ad2) ls.length c2, .int .i64 0, .int .i64 0, .bool false, .slice (some ad) l1.length c1, .int .i64 (l1.length : Int), .int .i64 (i : Int), .bool true, .int .i64 (i : Int), .pointer (some (ad.add i)), .int .i64 (rd l1 (i : Int)), u9, .int .i64 (rd l1 (i : Int)), .int .u8 a2, .int .i64 a2, .int .i64 s, .int .i64 x1, .slice (some ⟨b1, 0, none⟩) 1 1, v1, u10, .slice (some ad2) ls.length c2, .int .i64 (i : Int), .pointer (some (ad2.add i)), .int .i64 (rd ls (i : Int)), .int .i64 x2, .slice (some ⟨b2, 0, none⟩) 1 1, u52, u53, undef, undef, undef, undef, undef, undef, undef, undef, undef, undef, undef, undef, undef, undef, undef, undef, undef, undef, undef, undef, undef, undef, undef, undef, undef, undef, undef, undef, undef, undef, undef, undef], defers := [] }) (by kernel_rfl) ?_
              refine wpAnyH_all (rs := [15]) (by kernel_rfl) (by simp) ?_
              intro ix hix
              obtain rfl : ix = 15 := by simpa using hix
              clear hix
              refine MoneyScales.opOf rfl (by kernel_rfl) (Kd.R_append_rows_step (Kd.int .i64) (w0 := W2) M (by kernel_rfl) (.tmp 45) (.tmp 51) 36 2 (.int .i64 0) 8 rfl Try.underlying36 info2 rfl (by decide) (by omega) u10 ts [x2] (some ⟨b2, 0, none⟩) 1 1 (fun _ => True) (fun _ => False) rfl rfl TW.out.rt F2.out.row (fun _ _ h => h) (fun _ h => h.elim) (fun _ _ => trivial) TW.out.b TW.out.m (by have := HTL.out; omega) ?_)
              intro v2 V0aaaa ho hyb hgr hat
              replace TW := Aside0.mk (TW.out.appT (Kd.own_of_R ho) hyb hgr hat)
              clear ho hyb hgr hat
              refine ⟨⟨TW.out.b, TW.out.m⟩, ?_⟩
              refine MoneyScales.norm (a' := { tmps := #[.int .i64 a0, .slice (some ad) l1.length c1, .int .u8 a2, undef, undef, undef, .bool false, .slice (some ad2) ls.length c2, .int .i64 0, u9, u10, .int .i64 (i : Int), .int .i64 (rd l1 (i : Int)), undef, undef, undef, undef, .bool true, .bool false, .slice (some ad) l1.length c1, .int .i64 (l1.length : Int), .bool false, .tuple #[.slice (some ad2) ls.length c2, .int .i64 0], .int .i64 a0, .slice (some ad) l1.length c1, .tuple #[.slice (some ad2) ls.length c2, .int .i64 0], .slice (some ad2) ls.length c2, .int .i64 0, .int .i64 0, .bool false, .slice (some ad) l1.length c1, .int .i64 (l1.length : Int), .int .i64 (i : Int), .bool true, .int .i64 (i : Int), .pointer (some (ad.add i)), .int .i64 (rd l1 (i : Int)), u9, .int .i64 (rd l1 (i : Int)), .int .u8 a2, .int .i64 a2, .int .i64 s, .int .i64 x1, .slice (some ⟨b1, 0, none⟩) 1 1, v1, u10, .slice (some ad2) ls.length c2, .int .i64 (i : Int), .pointer (some (ad2.add i)), .int .i64 (rd ls (i : Int)), .int .i64 x2, .slice (some ⟨b2, 0, none⟩) 1 1, v2, u53, undef, undef, undef, undef, undef, undef, undef, undef, undef, undef, undef, undef, undef, undef, undef, undef, undef, undef, undef, undef, undef, undef, undef, undef, undef, undef, undef, undef, undef, undef, undef, undef], defers := [] }) (by kernel_rfl) ?_
              refine wpAnyH_take (i := 16) (v := v1) rfl (by kernel_rfl) (by kernel_rfl) (by kernel_rfl) (fun _ _ _ h => h) (Or.inl ⟨by kernel_rfl, fun W1 hS => by go_simp⟩) ⟨TW.out.b, TW.out.m⟩ ?_
              refine wpAnyH_take (i := 17) (v := v2) rfl (by kernel_rfl) (by kernel_rfl) (by kernel_rfl) (fun _ _ _ h => h) (Or.inl ⟨by kernel_rfl, fun W1 hS => by go_simp⟩) ⟨TW.out.b, TW.out.m⟩ ?_
              refine MoneyScales.norm (a' := { tmps := #[.int .i64 a0, .slice (some ad) l1.length c1, .int .u8 a2, undef, undef, undef, .bool false, .slice (some ad2) ls.length c2, .int .i64 0, v1, v2, .int .i64 (i : Int), .int .i64 (rd l1 (i : Int)), undef, undef, undef, undef, .bool true, .bool false, .slice (some ad) l1.length c1, .int .i64 (l1.length : Int), .bool false, .tuple #[.slice (some ad2) ls.length c2, .int .i64 0], .int .i64 a0, .slice (some ad) l1.length c1, .tuple #[.slice (some ad2) ls.length c2, .int .i64 0], .slice (some ad2) ls.length c2, .int .i64 0, .int .i64 0, .bool false, .slice (some ad) l1.length c1, .int .i64 (l1.length : Int), .int .i64 (i : Int), .bool true, .int .i64 (i : Int), .pointer (some (ad.add i)), .int .i64 (rd l1 (i : Int)), u9, .int .i64 (rd l1 (i : Int)), .int .u8 a2, .int .i64 a2, .int .i64 s, .int .i64 x1, .slice (some ⟨b1, 0, none⟩) 1 1, v1, u10, .slice (some ad2) ls.length c2, .int .i64 (i : Int), .pointer (some (ad2.add i)), .int .i64 (rd ls (i : Int)), .int .i64 x2, .slice (some ⟨b2, 0, none⟩) 1 1, v2, u53, undef, undef, undef, undef, undef, undef, undef, undef, undef, undef, undef, undef, undef, undef, undef, undef, undef, undef, undef, undef, undef, undef, undef, undef, undef, undef, undef, undef, undef, undef, undef, undef], defers := [] }) (by kernel_rfl) ?_
              refine wpAnyH_done (by kernel_rfl) ?_ _
              exact TL.out _ v1 v2 _ _ TW.out
          · have q1 : (i < l1.length) = False := eq_false c1
            have hi : i = l1.length := by have := HLE.out; omega
            clear c1
            subst hi
            have htw := HT.out
            rw [List.take_of_length_le (Nat.le_refl _), List.take_of_length_le (by have := HLL.out; omega)] at htw
            obtain ⟨nl, hnl⟩ : ∃ nl, nl = ls.map (fun x => -x) := ⟨_, rfl⟩
            obtain ⟨gl, hgl⟩ : ∃ gl, gl = l1.map (fun x => x * s) := ⟨_, rfl⟩
            rw [← hnl, ← hgl] at htw
            have HNL := Aside0.mk (show nl.length = ls.length by rw [hnl, List.length_map])
            have HGLn := Aside0.mk (show gl.length = l1.length by rw [hgl, List.length_map])
            obtain ⟨A3, c3, rfl, hle3, hC3⟩ := Kd.R_reads htw.rg
            obtain ⟨A4, c4, rfl, hle4, hC4⟩ := Kd.R_reads htw.rt
            have X3 := Aside0.mk hC3
            have X4 := Aside0.mk hC4
            have L3 := Aside0.mk hle3
            have L4 := Aside0.mk hle4
            have YR := Aside0.mk (show Below W2.heap.size W2 wr by rw [← HM.out]; exact htw.b)
            have CR := Aside0.mk (Kd.C_below C2.out YR.out)
            have XR := Aside0.mk (Kd.C_below X2.out YR.out)
            have YW := Aside0.mk (Y2.out.trans (YR.out.mono Y2.out.size))
            have HN1 := Aside0.mk (show money_Split.f k (-a0) l1 = some (nl, 0) by rw [split (by have := HK.out; have := HL.out; omega), split_neg HS.out, hnl])
            have HSM := Aside0.mk (show lombardref01_Same.f k nl nl = some true by
              rw [same (by have := HLL.out; have := HL.out; have := HNL.out; omega) (by have := HLL.out; have := HL.out; have := HK.out; have := HNL.out; omega), decide_eq_true rfl])
            have HSL := Aside0.mk (show lombardref01_Same.f k ls ls = some true by
              rw [same (by have := HLL.out; have := HL.out; omega) (by have := HLL.out; have := HL.out; have := HK.out; omega), decide_eq_true rfl])
            obtain ⟨⟨ks, ek⟩, hks⟩ : ∃ q, splitS a0 gl = q := ⟨_, rfl⟩
            have HKF := Aside0.mk (show money_Split.f k a0 gl = some (ks, ek) by rw [← hks]; exact split (by have := HK.out; have := HL.out; have := HGLn.out; omega))
            have hks2 : splitS a0 (l1.map (fun x => x * s)) = (ks, ek) := by rw [← hgl]; exact hks
            have HKE := Aside0.mk (show ek = 2 ∨ (ek = 0 ∧ ks = ls) by
              rcases split_times (s := s) (by have := HSS.out; omega) HS.out with e | e
              · exact .inl (congrArg Prod.snd (hks2.symm.trans e))
              · exact .inr ⟨congrArg Prod.snd (hks2.symm.trans e), congrArg Prod.fst (hks2.symm.trans e)⟩)
            have t1 : wrap64 (-a0) = -a0 := by have := HG.out.2.2.1; unfold may at this; unfold wrap64; omega
            clear htw hnl hgl hle3 hle4 hC3 hC4 hks hks2 HT
            go_upto_region 15 with (first | (go_at_call 24; go_must ((with_reducible refine (money_Split.calls k (-a0) A1 c1 l1 nl 0 _ CR.out HC.out HN1.out).mono ?_)); rintro e W5 ⟨v5, rfl, hR5, hb5⟩))
            obtain ⟨A5, c5, rfl, hle5, hC5⟩ := Kd.R_reads hR5
            have X5 := Aside0.mk hC5
            have L5 := Aside0.mk hle5
            have Y5 := Aside0.mk (YW.out.trans (hb5.mono YW.out.size))
            have X35 := Aside0.mk (Kd.C_below X3.out hb5)
            have X45 := Aside0.mk (Kd.C_below X4.out hb5)
            have X25 := Aside0.mk (Kd.C_below XR.out hb5)
            clear hR5 hle5 hC5 hb5 t1
            go_upto_region 17 with (first | (go_at_call 23; go_must ((with_reducible refine (lombardref01_Same.calls k A5 c5 nl A4 c4 nl true _ X5.out L5.out X45.out L4.out HSM.out).mono ?_)); rintro e W6 ⟨rfl, ⟨nd6, rfl⟩⟩))
            have hb6 := pw_below_drewN (Below.refl W5.heap.size W5) nd6
            generalize W5.drewN nd6 = W6 at *
            have Y6 := Aside0.mk (Y5.out.trans (hb6.mono Y5.out.size))
            have X36 := Aside0.mk (Kd.C_below X35.out hb6)
            have X26 := Aside0.mk (Kd.C_below X25.out hb6)
            clear hb6
            go_upto_region 18 with (first | (go_at_call 24; go_must ((with_reducible refine (money_Split.calls k a0 A3 c3 gl ks ek _ X36.out L3.out HKF.out).mono ?_)); rintro e W7 ⟨v7, rfl, hR7, hb7⟩))
            obtain ⟨A7, c7, rfl, hle7, hC7⟩ := Kd.R_reads hR7
            have X7 := Aside0.mk hC7
            have L7 := Aside0.mk hle7
            have Y7 := Aside0.mk (Y6.out.trans (hb7.mono Y6.out.size))
            have X27 := Aside0.mk (Kd.C_below X26.out hb7)
            clear hR7 hle7 hC7 hb7
            rcases HKE.out with rfl | ⟨rfl, rfl⟩
            · go_wp2
              go_ret
              exact ⟨rfl, Y7.out⟩
            · go_wp2_with (first | (go_at_call 23; go_must ((with_reducible refine (lombardref01_Same.calls k A7 c7 ks A2 c2 ks true _ X7.out L7.out X27.out L2.out HSL.out).mono ?_)); rintro e W8 ⟨rfl, ⟨nd8, rfl⟩⟩))
              go_ret
              exact ⟨rfl, Y7.out.trans (pw_below_drewN (Below.refl _ _) nd8 |>.mono Y7.out.size)⟩
    · have q2 : (er != 0) = true := by simp [ce]
      clear ce
      go_wp2_with (first | (go_at_call 24; go_must ((with_reducible refine (money_Split.calls k a0 A1 c1 l1 ls er _ (Kd.C_below HR.out Y1.out) HC.out HF.out).mono ?_)); rintro e W2 ⟨v2, rfl, hR2, hb2⟩))
      go_ret
      exact ⟨rfl, Y1.out.trans (hb2.mono Y1.out.size)⟩
theorem lombardlaw01_MoneyScales.walkR (a0 : Int) (a1 : Option Addr) (len1 cap1 : Nat) (z1 : List Int) (a2 : Int) (w : World) (w0 : (Lit.int .i64 a0).wf = true) (w1 : (a1 = none ∧ len1 = 0 ∧ cap1 = 0 ∧ z1 = []) ∨ ∃ x, a1 = some x ∧ len1 ≤ cap1 ∧ cap1 ≤ maxLen ∧ z1.length = cap1 ∧ (∀ i, i < z1.length → w.cell? (x.add i) = some (.int .i64 (z1.getD i 0))) ∧ ∀ n ∈ z1, (Lit.int .i64 n).wf = true) (w2 : (Lit.int .u8 a2).wf = true) :
    Calls Try.prog 8 #[.int .i64 a0, .slice a1 len1 cap1, .int .u8 a2] w fun e w' => e = .returned (.bool true) ∧ Below w.heap.size w w' := by
  obtain ⟨l1, rfl, hr1, hm1, hw1, hc1⟩ := ReadsInt.ofRowC w1
  exact lombardlaw01_MoneyScales.walk a0 a1 cap1 l1 a2 w w0 (Kd.C_of_reads (d := (0 : Int)) (h1 := fun _ => rfl) hr1) hc1 w2
end Go.Proofs.Ytohbdjfabghagaa.S
end

section
namespace Go.Proofs.YtohbdjfabghagaaW.PrintWords
open Go.ChangeShapes Go.WideShapes
/-- A row's slice of whole numbers is no longer than its weight allows. -/
theorem sized_ints {H : Type} {enc : TypeId × Value → H} {P : Program} {W : World} {base : Nat} {spare : Nat → Bool} {held : Bool} {t e : TypeId} {k : IntKind} {a : Option Addr} {len cap : Nat} {d : DataW H} {ps : List MemPlace} {ts : List TypeId} {ds : List (DataW H)} {j : Nat}
    (hsz : (DataW.weightsEach P ts ds).all (· ≤ reachBytes) = true) (ht : ts[j]? = some t) (hd : ds[j]? = some d) (hu : P.underlying t = some (.slice e)) (he : P.underlying e = some (.int k)) (hc : P.cellsOf e = 1) {B : Nat} (hB : P.bytesOf e = B)
    (h : DataW.Trod enc P W base spare held t (.slice a len cap) d ps) : len * B ≤ 140737488351232 := by
  obtain ⟨fuel, hf⟩ := h
  rcases open_ints hu he hc hf with ⟨hcs, _⟩ | ⟨x, l, c, zs, hcs, _, hl, _, hz, hx, _, _⟩
  · simp [Value.cells] at hcs
    obtain ⟨rfl, rfl, rfl⟩ := hcs
    simp
  · simp [Value.cells] at hcs
    obtain ⟨rfl, rfl, rfl⟩ := hcs
    obtain ⟨hx, _⟩ := Prod.mk.inj hx
    subst hx
    have z := sized_slice hsz ht hd hu
    rw [hB] at z
    have hl2 : len ≤ zs.length := by
      rw [hz]
      split
      · exact hl
      · exact Nat.le_refl _
    have h1 : (lits (H := H) k (zs.take len)).length + (lits (H := H) k (zs.drop len)).length = zs.length := by
      simp [lits]
      omega
    rw [h1] at z
    exact Nat.le_trans (Nat.mul_le_mul_right _ hl2) z
end Go.Proofs.YtohbdjfabghagaaW.PrintWords
end

section
namespace Go.Proofs.Ytohbdjfabghagaa.moneyScales
open Go.ChangeShapes Go.WideShapes Go.ChangeAt Go.RowKit
open Go.ChangeMaps (open_string shut_string)
set_option linter.unusedVariables false
theorem own : ownKnob Try.prog.godebug = none := by kernel_rfl
theorem laidOut : laidOutB Try.prog = true := by kernel_rfl
def IsRow (k : IntKind) (w : World) (a : Option Addr) (len cap : Nat) (zs : List Int) : Prop :=
  (a = none ∧ len = 0 ∧ cap = 0 ∧ zs = []) ∨
  ∃ x, a = some x ∧ len ≤ cap ∧ cap ≤ maxLen ∧ zs.length = cap ∧ (∀ i, i < zs.length → w.cell? (x.add i) = some (.int k (zs.getD i 0))) ∧ ∀ n ∈ zs, (Lit.int k n).wf = true
set_option maxRecDepth 100000 in
theorem lifted (os : Os) (started : os.Started) (H : Type) (enc : TypeId × Value → H) :
    ReturnsInHanded {} Try.checked os 8 .any (Rows.moneyScalesSpec.pre6 enc Try.prog Try.f8 Rows.moneyScalesRow.domain false) (Rows.moneyScalesSpec.post enc Try.prog Try.f8 false true false false) := by
  refine returnsInHanded_of_change_sized (C := Try.checked) own started (by kernel_rfl) Try.func8
    (ChangeSpec.witness6 (enc := enc) (C := Try.checked) false ⟨#[], #[.int .i64 0, .slice none 0 0, .int .u8 0], []⟩ 8 (by kernel_rfl) (by kernel_rfl) (by kernel_rfl) (by kernel_rfl)) ?_
  intro W base args ds gs before hval0 hW hcnd hsz0 _
  have hsz : (DataW.weightsEach Try.prog (Try.f8.params.toList ++ Rows.moneyScalesSpec.plain.varTypes Try.prog) (ds ++ gs)).all (· ≤ reachBytes) = true := hsz0
  have hval : ∀ (j : Nat) t v, Try.f8.params[j]? = some t → args[j]? = some v → Value.okWide Try.prog W .any base t v := hval0
  have hW' := hW
  obtain ⟨p, q, hA0, hV, rfl, hfz, hnd⟩ := hW
  have hA : DataW.TrodAll enc Try.prog W 0 (fun _ => true) true Try.f8.params.toList args.toList ds p := hA0
  rw [Try.params8] at hA hval hsz
  obtain ⟨v0, vs0, d0, ds0, p0, q0, hargs, rfl, rfl, h0, r0⟩ := trodAll_cons hA
  obtain ⟨v1, vs1, d1, ds1, p1, q1, rfl, rfl, rfl, h1, r1⟩ := trodAll_cons r0
  obtain ⟨v2, vs2, d2, ds2, p2, q2, rfl, rfl, rfl, h2, r2⟩ := trodAll_cons r1
  obtain ⟨rfl, rfl, rfl⟩ := trodAll_nil r2
  obtain rfl : args = #[v0, v1, v2] := by cases args; simp_all
  obtain ⟨rfl, rfl⟩ := trodVars_none hV
  obtain ⟨a0, rfl, rfl, rfl, w0⟩ := open_int Try.underlying2 (hval 0 2 v0 rfl rfl) h0
  obtain ⟨a2, rfl, rfl, rfl, w2⟩ := open_int Try.underlying5 (hval 2 5 v2 rfl rfl) h2
  obtain ⟨a1, len1, cap1, rfl⟩ := okWide_slice Try.underlying36 (hval 1 36 v1 rfl rfl)
  have k1 := h1
  have lt1 : ∀ x ∈ p1, x.block < W.heap.size := by obtain ⟨m, hm⟩ := k1; exact DataW.trod_lt m _ _ _ hm
  obtain ⟨z1, w1⟩ : ∃ zs, IsRow .i64 W a1 len1 cap1 zs := by
    obtain ⟨fuel, hf⟩ := h1
    rcases open_ints Try.underlying36 Try.underlying2 (by kernel_rfl) hf with ⟨hcs, _⟩ | ⟨x, l, c, zs, hcs, _, hl, hm, hz, _, hcell, hwz⟩
    · simp [Value.cells] at hcs
      obtain ⟨rfl, rfl, rfl⟩ := hcs
      exact ⟨[], .inl ⟨rfl, rfl, rfl, rfl⟩⟩
    · simp [Value.cells] at hcs
      obtain ⟨rfl, rfl, rfl⟩ := hcs
      exact ⟨zs, .inr ⟨_, rfl, hl, hm, by simpa using hz, hcell, hwz⟩⟩
  have y1 : len1 * 8 ≤ 140737488351232 := Go.Proofs.YtohbdjfabghagaaW.PrintWords.sized_ints hsz (j := 1) (t := 36) rfl rfl Try.underlying36 Try.underlying2 (by kernel_rfl) (by kernel_rfl) h1
  clear hA0 hval0 hsz0 hsz
  refine (S.lombardlaw01_MoneyScales.walkR a0 a1 len1 cap1 z1 a2 W w0 w1 w2).mono fun e W' ⟨he, bel⟩ => ?_
  subst he
  exact ⟨_, rfl, _, _, _, [], _, [], hW', trodAll_mk1 (shut_bool Try.underlying4 _), (trodAll_cons_mk (shut_int Try.underlying2 w0) (trodAll_cons_mk (Below.trod laidOut (by kernel_rfl) (of_decide_eq_true (by kernel_rfl)) k1 bel lt1) (trodAll_cons_mk (shut_int Try.underlying5 w2) trodAll_mk0))), rfl, bel.frame _, fun h => by cases h⟩
theorem over : Rows.moneyScalesRow.holds Try.pinned (OpenSpec.ofChange Rows.moneyScalesSpec) :=
  OpenClaim.holds_of_wide 8 Try.f8 rfl rfl rfl rfl rfl rfl rfl ⟨rfl, rfl, rfl, rfl, rfl⟩ rfl rfl rfl rfl rfl (by kernel_rfl) Try.func8 (by kernel_rfl)
    (of_decide_eq_true (by kernel_rfl)) (by unfold Func.isWrapper; first | (rw [if_pos (by decide +kernel)]; kernel_rfl) | (rw [if_neg (by decide +kernel)]; exact ⟨rfl, rfl⟩))
    (fun os started H enc _ => lifted os started H enc)
theorem proved : Rows.MoneyScalesSaid := over
#print axioms proved
end Go.Proofs.Ytohbdjfabghagaa.moneyScales
namespace Go.Proofs.Ytohbdjfabghagaa
/-- The row, under a short name, for the claim. -/
theorem moneyScales_holds : Rows.MoneyScalesSaid := moneyScales.proved
end Go.Proofs.Ytohbdjfabghagaa
end
