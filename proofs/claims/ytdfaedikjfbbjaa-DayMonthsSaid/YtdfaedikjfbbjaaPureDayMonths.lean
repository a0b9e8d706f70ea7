/-
  DayMonths, over plain numbers: a year's months have its days, together; each month's first is the day behind the last one's last.
  Conditions: none beyond the pure statement's.
-/
import Derived.Test.YtdfaedikjfbbjaaDayLaws
import Derived.Test.YtdfaedikjfbbjaaSxLombardlaw04DayMonths
namespace Go.Proofs.Ytdfaedikjfbbjaa.Pure
set_option linter.unusedVariables false
set_option linter.unusedSimpArgs false
open Go.RowKit Go.Proofs.Ytdfaedikjfbbjaa.S Go.Proofs.Ytdfaedikjfbbjaa.XNum Go.Proofs.Ytdfaedikjfbbjaa.Cal Go.Proofs.Ytdfaedikjfbbjaa.DayPure Go.Proofs.YtdfaedikjfbbjaaW.PrintWords Go.Proofs.YtdfaedikjfbbjaaW.PrintLast

theorem months_l0 (y : Int) (h1 : 1 ≤ y) (h2 : y ≤ 9999) (d : Nat) : ∀ (k : Nat) (m : Int), 1 ≤ m → m ≤ 13 → (13 - m).toNat = d → d + 10 < k →
    lombardlaw04_DayMonths.l0 k y (mo y m) (num y m 1 - 1) m = some true := by
  have hl := lp_01 y
  induction d with
  | zero =>
    intro k m a b hd hk
    obtain ⟨k, rfl⟩ : ∃ j, k = j + 1 := ⟨k - 1, by omega⟩
    have hm : m = 13 := by omega
    subst hm
    simp only [lombardlaw04_DayMonths.l0, leap, Option.bind_some]
    rw [if_neg (by omega), mo_13]
    by_cases c : lp y = 1
    · simp [c]
    · have c0 : lp y = 0 := by omega
      simp [c0]
  | succ d ih =>
    intro k m a b hd hk
    obtain ⟨k, rfl⟩ : ∃ j, k = j + 1 := ⟨k - 1, by omega⟩
    have hb := dim_bd y m
    have s := mo_succ y m (by omega) (by omega)
    have o : ok y m 1 := ⟨h1, h2, by omega, by omega, by omega, by omega⟩
    have r := num_range o
    have q := mo_le y (a := m) (b := 13) (by omega) (by omega) (by omega)
    have q' := mo_le y (a := 1) (b := m) (by omega) (by omega) (by omega)
    rw [mo_13] at q
    rw [mo_one] at q'
    have e1 : num y (m + 1) 1 = num y m 1 + dim y m := by unfold num; omega
    have hlast : last y m = dim y m := by
      unfold last
      rw [if_pos (by omega)]
    simp only [lombardlaw04_DayMonths.l0]
    rw [if_pos (by omega), from_ok o k (by omega)]
    simp only [Option.bind_some, if_true]
    rw [w64 (n := num y m 1 - 1 + 1) (by omega) (by omega), if_pos (by omega), last_ev y m k (by omega)]
    simp only [Option.bind_some]
    rw [hlast, w64 (n := mo y m + dim y m) (by omega) (by omega), w64 (n := num y m 1 + dim y m) (by omega) (by omega), w64 (n := num y m 1 + dim y m - 1) (by omega) (by omega), w64 (n := m + 1) (by omega) (by omega)]
    have := ih k (m + 1) (by omega) (by omega) (by omega) (by omega)
    rw [s, e1] at this
    exact this

theorem DayMonths : lombardlaw04_DayMonths.Pure := by
  intro n hn
  have hn := wfu16.1 hn
  refine ⟨30000, ?_⟩
  unfold lombardlaw04_DayMonths.f
  rw [DayLaws.alive 30000 (by omega)]
  simp only [Option.bind_some, if_true]
  rw [w64 (n := n) (by omega) (by omega), tm_nn (by omega), w64 (n := n % 9999 + 1) (by omega) (by omega), w64 (by omega) (by omega)]
  have e : n % 9999 + 1 - 1 = n % 9999 := by omega
  rw [e]
  have hm := months_l0 (n % 9999 + 1) (by omega) (by omega) 12 30000 1 (by omega) (by omega) (by omega) (by omega)
  rw [mo_one, num_one] at hm
  by_cases c : n % 9999 = 0
  · rw [from_no (by unfold ok; omega) 30000 (by omega)]
    simp only [Option.bind_some]
    rw [c] at hm ⊢
    exact hm
  · have o : ok (n % 9999) 12 31 := ⟨by omega, by omega, by omega, by omega, by omega, by simp [dim]⟩
    rw [from_ok o 30000 (by omega)]
    simp only [Option.bind_some]
    have s := mo_succ (n % 9999) 12 (by omega) (by omega)
    have t := mo_13 (n % 9999)
    have u := yd_succ (n % 9999)
    rw [show (12 : Int) + 1 = 13 by rfl] at s
    have d12 : dim (n % 9999) 12 = 31 := by simp [dim]
    have e2 : num (n % 9999) 12 31 = yd (n % 9999 + 1) - 1 := by unfold num; omega
    rw [e2]
    exact hm
end Go.Proofs.Ytdfaedikjfbbjaa.Pure
