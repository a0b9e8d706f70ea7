/-
  What the program's period functions, and the document's, compute: months on, rows of days, days that work.
  Conditions: none beyond those of each law.
-/
import Derived.Test.YtdfaedikjfbbjaaDayPure
import Derived.Test.YtdfaedikjfbbjaaDayRef
import Derived.Test.YtdfaedikjfbbjaaSxPeriodMonths
import Derived.Test.YtdfaedikjfbbjaaSxPeriodDates
import Derived.Test.YtdfaedikjfbbjaaSxPeriodWorks
import Derived.Test.YtdfaedikjfbbjaaSxLombardref06Months
import Derived.Test.YtdfaedikjfbbjaaSxLombardref06Dates
import Derived.Test.YtdfaedikjfbbjaaSxLombardref06Works
import Derived.Test.YtdfaedikjfbbjaaSxLombardref06Ints
namespace Go.Proofs.Ytdfaedikjfbbjaa.PerPure
set_option linter.unusedVariables false
set_option linter.unusedSimpArgs false
open Go.RowKit Go.Proofs.Ytdfaedikjfbbjaa.S Go.Proofs.Ytdfaedikjfbbjaa.XNum Go.Proofs.Ytdfaedikjfbbjaa.Cal Go.Proofs.Ytdfaedikjfbbjaa.DayPure Go.Proofs.YtdfaedikjfbbjaaW.PrintWords Go.Proofs.YtdfaedikjfbbjaaW.PrintLast

/-- The day months on from a date: its number, and the error. -/
def monthsOf (y m d months : Int) (e : Bool) : Int × Int :=
  let y' := (12 * y + m - 1 + months) / 12
  let m' := (12 * y + m - 1 + months) % 12 + 1
  let most := last y' m'
  let d' := if (e = true ∧ d = dim y m) ∨ d > most then most else d
  if ok y' m' d' then (num y' m' d', 0) else (0, 5)

theorem last_le (y m : Int) : 0 ≤ last y m ∧ last y m ≤ 31 := by
  have := dim_bd y m
  unfold last
  split <;> omega
theorem from_any (y m d : Int) (k : Nat) (hk : 2 ≤ k) : day_From.f k y m d = some (if ok y m d then (num y m d, 0) else (0, 5)) := by
  split
  · exact from_ok (by assumption) k hk
  · exact from_no (by assumption) k hk
theorem rfrom_any (y m d : Int) (k : Nat) (hk : 20000 ≤ k) : lombardref04_From.f k y m d = some (if ok y m d then (num y m d, 0) else (0, 5)) := by
  split
  · exact DayRef.from_ok (by assumption) k hk
  · exact DayRef.from_no (by assumption) k hk
theorem pair_eta (c : Prop) [Decidable c] (a b : Int × Int) : ((if c then a else b).1, (if c then a else b).2) = if c then a else b := rfl

/-- What a call that asks for months on answers. -/
def monthsAll (y m d months : Int) (e : Bool) : Int × Int := if months < -12000 ∨ months > 12000 then (0, 2) else monthsOf y m d months e

theorem months_f {y m d : Int} (h : ok y m d) (months : Int) (e : Bool) (k : Nat) (hk : 20000 ≤ k) :
    period_Months.f k (num y m d) months e = some (monthsAll y m d months e) := by
  have h0 := h
  obtain ⟨a, b, c, f, g, i⟩ := h0
  have hb := dim_bd y m
  unfold period_Months.f monthsAll
  rw [to_num h k hk]
  simp only [Option.bind_some, if_true]
  by_cases c1 : months < -12000
  · rw [if_pos c1, if_pos (.inl c1)]
  rw [if_neg c1]
  by_cases c2 : months > 12000
  · rw [if_pos c2, if_pos (.inr c2)]
  rw [if_neg c2, if_neg (by omega), last_ev y m k (by omega)]
  simp only [Option.bind_some]
  have hlast : last y m = dim y m := by
    unfold last
    rw [if_pos (by omega)]
  rw [hlast, w64 (n := y * 12) (by omega) (by omega), w64 (n := y * 12 + m) (by omega) (by omega), w64 (n := y * 12 + m - 1) (by omega) (by omega), w64 (n := y * 12 + m - 1 + months) (by omega) (by omega)]
  have ea : y * 12 + m - 1 + months = 12 * y + m - 1 + months := by omega
  rw [ea]
  unfold monthsOf
  by_cases c3 : 12 * y + m - 1 + months < 0
  · have hl : last ((12 * y + m - 1 + months) / 12) ((12 * y + m - 1 + months) % 12 + 1) = 0 := by
      unfold last
      rw [if_neg (by omega)]
    rw [if_pos c3]
    dsimp only
    rw [hl, if_pos (c := (e = true ∧ d = dim y m) ∨ d > 0) (.inr (by omega)), if_neg (by unfold ok; omega)]
  rw [if_neg c3]
  rw [td_nn (a := 12 * y + m - 1 + months) (by omega), tm_nn (a := 12 * y + m - 1 + months) (by omega), w64 (n := (12 * y + m - 1 + months) / 12) (by omega) (by omega), w64 (n := (12 * y + m - 1 + months) % 12 + 1) (by omega) (by omega)]
  rw [last_ev _ _ k (by omega)]
  simp only [Option.bind_some, from_any _ _ _ k (show 2 ≤ k by omega), pair_eta]
  generalize last ((12 * y + m - 1 + months) / 12) ((12 * y + m - 1 + months) % 12 + 1) = L
  cases e with
  | true =>
    by_cases c4 : d = dim y m
    · simp [c4]
    · by_cases c5 : d > L
      · simp [c4, c5]
      · simp [c4, c5]
  | false =>
    by_cases c5 : d > L
    · simp [c5]
    · simp [c5]

/-- The document's way: month by month. -/
theorem ref_l1 (d0 : Int) (e lastf : Bool) (hd : 1 ≤ d0) (hd2 : d0 ≤ 31) (all : Int) (h1 : -20000 ≤ all) (h2 : all ≤ 140000) (n : Nat) : ∀ (k : Nat) (x y m : Int), x ≤ 0 → (-x).toNat = n → n + 20001 ≤ k → 1 ≤ m → m ≤ 12 → 12 * y + m - 1 + x = all → -20000 ≤ y → y ≤ 20000 →
    lombardref06_Months.l1 k x e lastf y m d0 = some (let most := last (all / 12) (all % 12 + 1); let d' := if (e = true ∧ lastf = true) ∨ d0 > most then most else d0; if ok (all / 12) (all % 12 + 1) d' then (num (all / 12) (all % 12 + 1) d', 0) else (0, 5)) := by
  induction n with
  | zero =>
    intro k x y m hx hn hk hm1 hm2 ha hy1 hy2
    obtain ⟨k, rfl⟩ : ∃ j, k = j + 1 := ⟨k - 1, by omega⟩
    have hx0 : x = 0 := by omega
    subst hx0
    have ey : all / 12 = y := by omega
    have em : all % 12 + 1 = m := by omega
    rw [ey, em]
    simp only [lombardref06_Months.l1, DayRef.rlast, Option.bind_some, rfrom_any _ _ _ k (show 20000 ≤ k by omega), pair_eta]
    rw [if_neg (by omega)]
    by_cases c : d0 > last y m
    · simp [c]
    · cases e <;> cases lastf <;> simp [c]
  | succ n ih =>
    intro k x y m hx hn hk hm1 hm2 ha hy1 hy2
    obtain ⟨k, rfl⟩ : ∃ j, k = j + 1 := ⟨k - 1, by omega⟩
    simp only [lombardref06_Months.l1]
    rw [if_pos (by omega), w64 (n := m - 1) (by omega) (by omega), w64 (n := x + 1) (by omega) (by omega), w64 (n := y - 1) (by omega) (by omega)]
    by_cases c : m - 1 < 1
    · rw [if_pos c]
      exact ih k (x + 1) (y - 1) 12 (by omega) (by omega) (by omega) (by omega) (by omega) (by omega) (by omega) (by omega)
    · rw [if_neg c]
      exact ih k (x + 1) y (m - 1) (by omega) (by omega) (by omega) (by omega) (by omega) (by omega) (by omega) (by omega)

theorem ref_l0 (d0 : Int) (e lastf : Bool) (hd : 1 ≤ d0) (hd2 : d0 ≤ 31) (all : Int) (h1 : -20000 ≤ all) (h2 : all ≤ 140000) (n : Nat) : ∀ (k : Nat) (x y m : Int), -12000 ≤ x → x ≤ 12000 → x.toNat = n → n + 40010 ≤ k → 1 ≤ m → m ≤ 12 → 12 * y + m - 1 + x = all → 0 ≤ y → y ≤ 20000 →
    lombardref06_Months.l0 k x e lastf y m d0 = some (let most := last (all / 12) (all % 12 + 1); let d' := if (e = true ∧ lastf = true) ∨ d0 > most then most else d0; if ok (all / 12) (all % 12 + 1) d' then (num (all / 12) (all % 12 + 1) d', 0) else (0, 5)) := by
  induction n with
  | zero =>
    intro k x y m hx hx2 hn hk hm1 hm2 ha hy1 hy2
    obtain ⟨k, rfl⟩ : ∃ j, k = j + 1 := ⟨k - 1, by omega⟩
    simp only [lombardref06_Months.l0]
    rw [if_neg (by omega)]
    exact ref_l1 d0 e lastf hd hd2 all h1 h2 (-x).toNat k x y m (by omega) rfl (by omega) hm1 hm2 ha (by omega) (by omega)
  | succ n ih =>
    intro k x y m hx hx2 hn hk hm1 hm2 ha hy1 hy2
    obtain ⟨k, rfl⟩ : ∃ j, k = j + 1 := ⟨k - 1, by omega⟩
    simp only [lombardref06_Months.l0]
    rw [if_pos (by omega), w64 (n := m + 1) (by omega) (by omega), w64 (n := x - 1) (by omega) (by omega), w64 (n := y + 1) (by omega) (by omega)]
    by_cases c : m + 1 > 12
    · rw [if_pos c]
      exact ih k (x - 1) (y + 1) 1 (by omega) (by omega) (by omega) (by omega) (by omega) (by omega) (by omega) (by omega) (by omega)
    · rw [if_neg c]
      exact ih k (x - 1) y (m + 1) (by omega) (by omega) (by omega) (by omega) (by omega) (by omega) (by omega) (by omega) (by omega)

theorem rmonths_f {y m d : Int} (h : ok y m d) (months : Int) (e : Bool) (k : Nat) (hk : 60000 ≤ k) :
    lombardref06_Months.f k (num y m d) months e = some (monthsAll y m d months e) := by
  have h0 := h
  obtain ⟨a, b, c, f, g, i⟩ := h0
  have hb := dim_bd y m
  obtain ⟨k, rfl⟩ : ∃ j, k = j + 1 := ⟨k - 1, by omega⟩
  have t : ∀ y m d, lombardref06_Months.j0 (k + 1) months e true y m d = some (0, 2) := by
    intro y m d
    simp only [lombardref06_Months.j0, if_true]
  unfold lombardref06_Months.f monthsAll
  rw [DayRef.to_num h (k + 1) (by omega)]
  simp only [Option.bind_some, if_true]
  by_cases c1 : months < -12000
  · rw [if_pos c1, if_pos (.inl c1), t]
  rw [if_neg c1]
  by_cases c2 : months > 12000
  · rw [decide_eq_true c2, if_pos (.inr c2), t]
  rw [decide_eq_false c2, if_neg (by omega)]
  simp only [lombardref06_Months.j0, Bool.false_eq_true, if_false, DayRef.rlast, Option.bind_some]
  have hlast : last y m = dim y m := by
    unfold last
    rw [if_pos (by omega)]
  rw [hlast, ref_l0 d e (d == dim y m) (by omega) (by omega) (12 * y + m - 1 + months) (by omega) (by omega) months.toNat k months y m (by omega) (by omega) rfl (by omega) (by omega) (by omega) (by omega) (by omega) (by omega)]
  unfold monthsOf
  simp only [beq_iff_eq]

theorem months_no {n : Int} (h : n < 1 ∨ 3652059 < n) (months : Int) (e : Bool) (k : Nat) (hk : 1 ≤ k) : period_Months.f k n months e = some (0, 5) := by
  unfold period_Months.f
  rw [to_no h k hk]
  simp only [Option.bind_some]
  rw [if_neg (by omega)]
theorem rmonths_no {n : Int} (h : n < 1 ∨ 3652059 < n) (months : Int) (e : Bool) (k : Nat) (hk : 1 ≤ k) : lombardref06_Months.f k n months e = some (0, 5) := by
  unfold lombardref06_Months.f
  rw [DayRef.to_no h k hk]
  simp only [Option.bind_some]
  rw [if_neg (by omega)]

open Classical in
/-- Months on from any day. -/
noncomputable def mon (n months : Int) (e : Bool) : Int × Int :=
  if h : ∃ t : Int × Int × Int, ok t.1 t.2.1 t.2.2 ∧ num t.1 t.2.1 t.2.2 = n then monthsAll h.choose.1 h.choose.2.1 h.choose.2.2 months e else (0, 5)
theorem mon_num {y m d : Int} (h : ok y m d) (months : Int) (e : Bool) : mon (num y m d) months e = monthsAll y m d months e := by
  have hx : ∃ t : Int × Int × Int, ok t.1 t.2.1 t.2.2 ∧ num t.1 t.2.1 t.2.2 = num y m d := ⟨(y, m, d), h, rfl⟩
  unfold mon
  rw [dif_pos hx]
  obtain ⟨e1, e2, e3⟩ := num_inj hx.choose_spec.1 h hx.choose_spec.2
  rw [e1, e2, e3]
theorem mon_no {n : Int} (h : n < 1 ∨ 3652059 < n) (months : Int) (e : Bool) : mon n months e = (0, 5) := by
  unfold mon
  rw [dif_neg]
  rintro ⟨t, ht, rfl⟩
  have := num_range ht
  omega
theorem months_any (n months : Int) (e : Bool) (k : Nat) (hk : 20000 ≤ k) : period_Months.f k n months e = some (mon n months e) := by
  by_cases c : 1 ≤ n ∧ n ≤ 3652059
  · obtain ⟨y, m, d, o, rfl⟩ := date_of n c.1 c.2
    rw [mon_num o, months_f o months e k hk]
  · rw [mon_no (by omega), months_no (by omega) months e k (by omega)]
theorem rmonths_any (n months : Int) (e : Bool) (k : Nat) (hk : 60000 ≤ k) : lombardref06_Months.f k n months e = some (mon n months e) := by
  by_cases c : 1 ≤ n ∧ n ≤ 3652059
  · obtain ⟨y, m, d, o, rfl⟩ := date_of n c.1 c.2
    rw [mon_num o, rmonths_f o months e k hk]
  · rw [mon_no (by omega), rmonths_no (by omega) months e k (by omega)]

/-- A row of days: so many more, from the i-th one on; what has been gathered. -/
def row (g : Int → Int × Int) : Nat → Int → List Int → List Int × Int
  | 0, _, acc => (acc, 0)
  | r + 1, i, acc => if (g i).2 = 0 then row g r (i + 1) (acc ++ [(g i).1]) else ([], (g i).2)

theorem dates_l0 (n step : Int) (e : Bool) (times : Int) (hs : 1 ≤ step) (hs2 : step ≤ 12) (ht : 0 ≤ times) (ht2 : times ≤ 600) (r : Nat) : ∀ (k : Nat) (i : Int) (acc : List Int), 0 ≤ i → i ≤ times → (times - i).toNat = r → r + 20001 ≤ k → acc.length ≤ 600 - r →
    period_Dates.l0 k n step e acc times i = some (row (fun j => mon n (j * step) e) r (i + 1) acc) := by
  induction r with
  | zero =>
    intro k i acc h1 h2 hr hk ha
    obtain ⟨k, rfl⟩ : ∃ j, k = j + 1 := ⟨k - 1, by omega⟩
    simp only [period_Dates.l0, row]
    rw [if_neg (by omega)]
  | succ r ih =>
    intro k i acc h1 h2 hr hk ha
    obtain ⟨k, rfl⟩ : ∃ j, k = j + 1 := ⟨k - 1, by omega⟩
    have b1 : 0 ≤ (i + 1) * step := Int.mul_nonneg (by omega) (by omega)
    have b2 : (i + 1) * step ≤ 601 * 12 := Int.mul_le_mul (by omega) hs2 (by omega) (by omega)
    simp only [period_Dates.l0, row]
    rw [if_pos (by omega), w64 (n := i + 1) (by omega) (by omega), w64 (n := (i + 1) * step) (by omega) (by omega), months_any _ _ _ k (by omega)]
    simp only [Option.bind_some]
    split
    · rw [if_pos (by omega)]
      exact ih k (i + 1) _ (by omega) (by omega) (by omega) (by omega) (by simp; omega)
    · rfl

theorem rdates_l0 (n step : Int) (e : Bool) (times : Int) (hs : 1 ≤ step) (hs2 : step ≤ 12) (ht : 0 ≤ times) (ht2 : times ≤ 600) (r : Nat) : ∀ (k : Nat) (i : Int) (acc : List Int), 1 ≤ i → i ≤ times + 1 → (times + 1 - i).toNat = r → r + 60001 ≤ k → acc.length ≤ 600 - r →
    lombardref06_Dates.l0 k n step times e acc i = some (row (fun j => mon n (j * step) e) r i acc) := by
  induction r with
  | zero =>
    intro k i acc h1 h2 hr hk ha
    obtain ⟨k, rfl⟩ : ∃ j, k = j + 1 := ⟨k - 1, by omega⟩
    simp only [lombardref06_Dates.l0, row]
    rw [if_neg (by omega)]
  | succ r ih =>
    intro k i acc h1 h2 hr hk ha
    obtain ⟨k, rfl⟩ : ∃ j, k = j + 1 := ⟨k - 1, by omega⟩
    have b1 : 0 ≤ i * step := Int.mul_nonneg (by omega) (by omega)
    have b2 : i * step ≤ 601 * 12 := Int.mul_le_mul (by omega) hs2 (by omega) (by omega)
    simp only [lombardref06_Dates.l0, row]
    rw [if_pos (by omega), w64 (n := i * step) (by omega) (by omega), rmonths_any _ _ _ k (by omega)]
    simp only [Option.bind_some]
    split
    · rw [if_pos (by omega), w64 (n := i + 1) (by omega) (by omega)]
      exact ih k (i + 1) _ (by omega) (by omega) (by omega) (by omega) (by simp; omega)
    · rfl

/-- What a call that asks for a row answers. -/
noncomputable def rowOf (n step times : Int) (e : Bool) : List Int × Int :=
  if 1 ≤ step ∧ step ≤ 12 ∧ 0 ≤ times ∧ times ≤ 600 then row (fun j => mon n (j * step) e) times.toNat 1 [] else ([], 2)

theorem dates_any (n step times : Int) (e : Bool) (k : Nat) (hk : 30000 ≤ k) : period_Dates.f k n step times e = some (rowOf n step times e) := by
  obtain ⟨k, rfl⟩ : ∃ j, k = j + 1 := ⟨k - 1, by omega⟩
  have t : period_Dates.j0 (k + 1) n step times e true = some ([], 2) := by simp only [period_Dates.j0, if_true]
  unfold period_Dates.f rowOf
  by_cases c1 : step < 1
  · rw [if_pos c1, t, if_neg (by omega)]
  rw [if_neg c1]
  by_cases c2 : step > 12
  · rw [if_pos c2, t, if_neg (by omega)]
  rw [if_neg c2]
  by_cases c3 : times < 0
  · rw [if_pos c3, t, if_neg (by omega)]
  rw [if_neg c3]
  by_cases c4 : times > 600
  · rw [decide_eq_true c4, t, if_neg (by omega)]
  rw [decide_eq_false c4, if_pos (by omega)]
  simp only [period_Dates.j0, Bool.false_eq_true, if_false]
  exact dates_l0 n step e times (by omega) (by omega) (by omega) (by omega) times.toNat k 0 [] (by omega) (by omega) (by omega) (by omega) (by simp)
theorem rdates_any (n step times : Int) (e : Bool) (k : Nat) (hk : 70000 ≤ k) : lombardref06_Dates.f k n step times e = some (rowOf n step times e) := by
  obtain ⟨k, rfl⟩ : ∃ j, k = j + 1 := ⟨k - 1, by omega⟩
  have t : lombardref06_Dates.j0 (k + 1) n step times e true = some ([], 2) := by simp only [lombardref06_Dates.j0, if_true]
  unfold lombardref06_Dates.f rowOf
  by_cases c1 : step < 1
  · rw [if_pos c1, t, if_neg (by omega)]
  rw [if_neg c1]
  by_cases c2 : step > 12
  · rw [if_pos c2, t, if_neg (by omega)]
  rw [if_neg c2]
  by_cases c3 : times < 0
  · rw [if_pos c3, t, if_neg (by omega)]
  rw [if_neg c3]
  by_cases c4 : times > 600
  · rw [decide_eq_true c4, t, if_neg (by omega)]
  rw [decide_eq_false c4, if_pos (by omega)]
  simp only [lombardref06_Dates.j0, Bool.false_eq_true, if_false]
  exact rdates_l0 n step e times (by omega) (by omega) (by omega) (by omega) times.toNat k 1 [] (by omega) (by omega) (by omega) (by omega) (by simp)

/-- The same numbers. -/
theorem ints_l0 (l m : List Int) (hl : l.length = m.length) (hm : (l.length : Int) ≤ 9223372036854775807) (d : Nat) : ∀ (k : Nat) (i : Int), 0 ≤ i → i ≤ l.length → ((l.length : Int) - i).toNat = d → d < k →
    lombardref06_Ints.l0 k l m l.length i = some (decide (l.drop i.toNat = m.drop i.toNat)) := by
  induction d with
  | zero =>
    intro k i h1 h2 hd hk
    obtain ⟨k, rfl⟩ : ∃ j, k = j + 1 := ⟨k - 1, by omega⟩
    simp only [lombardref06_Ints.l0]
    rw [if_neg (by omega), List.drop_eq_nil_of_le (by omega), List.drop_eq_nil_of_le (by omega)]
    simp
  | succ d ih =>
    intro k i h1 h2 hd hk
    obtain ⟨k, rfl⟩ : ∃ j, k = j + 1 := ⟨k - 1, by omega⟩
    have hi : i.toNat < l.length := by omega
    have hi2 : i.toNat < m.length := by omega
    simp only [lombardref06_Ints.l0]
    rw [if_pos (by omega), if_pos h1, if_pos (by omega), if_pos (by omega), List.drop_eq_getElem_cons hi, List.drop_eq_getElem_cons hi2]
    have r1 : rd l i = l[i.toNat] := by
      unfold rd
      simp [List.getD_eq_getElem?_getD, hi]
    have r2 : rd m i = m[i.toNat] := by
      unfold rd
      simp [List.getD_eq_getElem?_getD, hi2]
    rw [r1, r2]
    by_cases c : l[i.toNat] = m[i.toNat]
    · rw [if_pos c, w64 (by omega) (by omega), ih k (i + 1) (by omega) (by omega) (by omega) (by omega), show (i + 1).toNat = i.toNat + 1 by omega]
      congr 1
      rw [decide_eq_decide, List.cons.injEq]
      exact ⟨fun h => ⟨c, h⟩, fun h => h.2⟩
    · rw [if_neg c]
      congr 1
      rw [eq_comm, decide_eq_false_iff_not, List.cons.injEq]
      exact fun h => c h.1
theorem ints_any (l m : List Int) (hm : (l.length : Int) ≤ 9223372036854775807) (k : Nat) (hk : l.length < k) : lombardref06_Ints.f k l m = some (decide (l = m)) := by
  unfold lombardref06_Ints.f
  by_cases c : (l.length : Int) = (m.length : Int)
  · rw [if_pos c, ints_l0 l m (by omega) hm l.length k 0 (by omega) (by omega) (by omega) hk]
    simp
  · rw [if_neg c]
    have : ¬ l = m := fun h => c (by rw [h])
    simp [this]

/-- Is a number among others? -/
theorem index_l0 (l : List Int) (x : Int) (hm : (l.length : Int) ≤ 9223372036854775807) (d : Nat) : ∀ (k : Nat) (i : Int), 0 ≤ i → i ≤ l.length → ((l.length : Int) - i).toNat = d → d < k →
    ∃ r, slices_Index_int_int.l0 k l x l.length i = some r ∧ (0 ≤ r ↔ x ∈ l.drop i.toNat) := by
  induction d with
  | zero =>
    intro k i h1 h2 hd hk
    obtain ⟨k, rfl⟩ : ∃ j, k = j + 1 := ⟨k - 1, by omega⟩
    refine ⟨-1, ?_, ?_⟩
    · simp only [slices_Index_int_int.l0]
      rw [if_neg (by omega)]
    · rw [List.drop_eq_nil_of_le (by omega)]
      simp
  | succ d ih =>
    intro k i h1 h2 hd hk
    obtain ⟨k, rfl⟩ : ∃ j, k = j + 1 := ⟨k - 1, by omega⟩
    have hi : i.toNat < l.length := by omega
    have r1 : rd l i = l[i.toNat] := by
      unfold rd
      simp [List.getD_eq_getElem?_getD, hi]
    simp only [slices_Index_int_int.l0]
    rw [if_pos (by omega), if_pos h1, if_pos (by omega), r1, List.drop_eq_getElem_cons hi]
    by_cases c : x = l[i.toNat]
    · exact ⟨i, by rw [if_pos c], fun _ => by rw [c]; exact List.mem_cons_self, fun _ => h1⟩
    · obtain ⟨r, hr, h⟩ := ih k (i + 1) (by omega) (by omega) (by omega) (by omega)
      refine ⟨r, by rw [if_neg c, w64 (by omega) (by omega)]; exact hr, ?_⟩
      rw [h, show (i + 1).toNat = i.toNat + 1 by omega, List.mem_cons]
      simp [c]
theorem contains_any (l : List Int) (x : Int) (hm : (l.length : Int) ≤ 9223372036854775807) (k : Nat) (hk : l.length < k) : slices_Contains_int_int.f k l x = some (decide (x ∈ l)) := by
  obtain ⟨r, hr, h⟩ := index_l0 l x hm l.length k 0 (by omega) (by omega) (by omega) hk
  unfold slices_Contains_int_int.f slices_Index_int_int.f
  rw [hr]
  simp only [Option.bind_some]
  congr 1
  rw [decide_eq_decide]
  simpa using h

/-- Does a day work? -/
def work (l : List Int) (n : Int) : Bool := decide ((n + 6) % 7 < 5 ∧ n ∉ l)
theorem works_any (n : Int) (l : List Int) (hm : (l.length : Int) ≤ 9223372036854775807) (k : Nat) (hk : l.length < k) : period_Works.f k n l = some (work l n) := by
  unfold period_Works.f work
  rw [weekday, contains_any l n hm k hk]
  simp only [Option.bind_some]
  by_cases c : (n + 6) % 7 < 5
  · rw [if_pos c]
    by_cases c2 : n ∈ l <;> simp [c, c2]
  · rw [if_neg c]
    simp [c]
theorem rworks_l0 (l : List Int) (x : Int) (hm : (l.length : Int) ≤ 9223372036854775807) (d : Nat) : ∀ (k : Nat) (i : Int), 0 ≤ i → i ≤ l.length → ((l.length : Int) - i).toNat = d → d < k →
    lombardref06_Works.l0 k x l l.length i = some (decide (x ∉ l.drop i.toNat)) := by
  induction d with
  | zero =>
    intro k i h1 h2 hd hk
    obtain ⟨k, rfl⟩ : ∃ j, k = j + 1 := ⟨k - 1, by omega⟩
    simp only [lombardref06_Works.l0]
    rw [if_neg (by omega), List.drop_eq_nil_of_le (by omega)]
    simp
  | succ d ih =>
    intro k i h1 h2 hd hk
    obtain ⟨k, rfl⟩ : ∃ j, k = j + 1 := ⟨k - 1, by omega⟩
    have hi : i.toNat < l.length := by omega
    have r1 : rd l i = l[i.toNat] := by
      unfold rd
      simp [List.getD_eq_getElem?_getD, hi]
    simp only [lombardref06_Works.l0]
    rw [if_pos (by omega), if_pos h1, if_pos (by omega), r1, List.drop_eq_getElem_cons hi]
    by_cases c : l[i.toNat] = x
    · rw [if_pos c]
      simp [c]
    · rw [if_neg c, w64 (by omega) (by omega), ih k (i + 1) (by omega) (by omega) (by omega) (by omega), show (i + 1).toNat = i.toNat + 1 by omega]
      congr 1
      rw [decide_eq_decide, List.mem_cons]
      exact ⟨fun h h2 => h2.elim (fun h3 => c h3.symm) h, fun h h2 => h (.inr h2)⟩
theorem rworks_any (n : Int) (l : List Int) (hm : (l.length : Int) ≤ 9223372036854775807) (k : Nat) (hk : l.length < k) : lombardref06_Works.f k n l = some (work l n) := by
  unfold lombardref06_Works.f work
  rw [DayRef.weekday]
  simp only [Option.bind_some]
  by_cases c : (n + 6) % 7 < 5
  · rw [if_neg (by omega), rworks_l0 l n hm l.length k 0 (by omega) (by omega) (by omega) hk]
    simp [c]
  · rw [if_pos (by omega)]
    simp [c]
end Go.Proofs.Ytdfaedikjfbbjaa.PerPure
