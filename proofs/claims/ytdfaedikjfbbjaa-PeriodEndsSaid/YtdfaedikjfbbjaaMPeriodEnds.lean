/- The statement PeriodEndsSaid: for every input the law returns true, and each argument reads afterwards as it read before. Conditions: none. -/
import Derived.Test.YtdfaedikjfbbjaaPerPure
import Derived.Test.YtdfaedikjfbbjaaSxPeriodRoll
import Derived.Test.YtdfaedikjfbbjaaSxLombardref06Roll
import Derived.Test.YtdfaedikjfbbjaaSxLombardlaw06Alive
import Derived.Test.YtdfaedikjfbbjaaSxLombardlaw06PeriodEnds
import Derived.Test.YtdfaedikjfbbjaaRows
import Derived.WalkKit
import Derived.ProofKit
import Derived.OpenShut
import Derived.ShutString
import Derived.ChangeOld
import Derived.Below
import Derived.SizedLaws
section
namespace Go.Proofs.Ytdfaedikjfbbjaa.PerRoll
set_option linter.unusedVariables false
set_option linter.unusedSimpArgs false
open Go.RowKit Go.Proofs.Ytdfaedikjfbbjaa.S Go.Proofs.Ytdfaedikjfbbjaa.XNum Go.Proofs.Ytdfaedikjfbbjaa.Cal Go.Proofs.Ytdfaedikjfbbjaa.DayPure Go.Proofs.Ytdfaedikjfbbjaa.PerPure Go.Proofs.YtdfaedikjfbbjaaW.PrintWords Go.Proofs.YtdfaedikjfbbjaaW.PrintLast

def up (l : List Int) : Nat → Int → Option Int
  | 0, _ => none
  | d + 1, at_ => if work l at_ = true then some at_ else up l d (at_ + 1)
def dn (l : List Int) : Nat → Int → Option Int
  | 0, _ => none
  | d + 1, at_ => if work l at_ = true then some at_ else dn l d (at_ - 1)
/-- The next day that works, and the last one. -/
def next (l : List Int) (n : Int) : Option Int := up l (3652060 - n).toNat n
def prev (l : List Int) (n : Int) : Option Int := dn l n.toNat n
def res : Option Int → Int × Int
  | some m => (m, 0)
  | none => (0, 5)

theorem up_some {l : List Int} {d : Nat} : ∀ {at_ m : Int}, up l d at_ = some m → at_ ≤ m ∧ m < at_ + d ∧ work l m = true ∧ ∀ j, at_ ≤ j → j < m → work l j = false := by
  induction d with
  | zero => intro at_ m h; simp [up] at h
  | succ d ih =>
    intro at_ m h
    simp only [up] at h
    by_cases c : work l at_ = true
    · rw [if_pos c] at h
      obtain rfl := Option.some.inj h
      exact ⟨by omega, by omega, c, fun j h1 h2 => by omega⟩
    · rw [if_neg c] at h
      obtain ⟨h1, h2, h3, h4⟩ := ih h
      refine ⟨by omega, by omega, h3, fun j j1 j2 => ?_⟩
      by_cases e : j = at_
      · subst e
        exact Bool.eq_false_iff.mpr c
      · exact h4 j (by omega) j2
theorem up_none {l : List Int} {d : Nat} : ∀ {at_ : Int}, up l d at_ = none → ∀ j, at_ ≤ j → j < at_ + d → work l j = false := by
  induction d with
  | zero => intro at_ h j h1 h2; omega
  | succ d ih =>
    intro at_ h j h1 h2
    simp only [up] at h
    by_cases c : work l at_ = true
    · rw [if_pos c] at h
      cases h
    · rw [if_neg c] at h
      by_cases e : j = at_
      · subst e
        exact Bool.eq_false_iff.mpr c
      · exact ih h j (by omega) (by omega)
theorem dn_some {l : List Int} {d : Nat} : ∀ {at_ m : Int}, dn l d at_ = some m → m ≤ at_ ∧ at_ < m + d ∧ work l m = true ∧ ∀ j, m < j → j ≤ at_ → work l j = false := by
  induction d with
  | zero => intro at_ m h; simp [dn] at h
  | succ d ih =>
    intro at_ m h
    simp only [dn] at h
    by_cases c : work l at_ = true
    · rw [if_pos c] at h
      obtain rfl := Option.some.inj h
      exact ⟨by omega, by omega, c, fun j h1 h2 => by omega⟩
    · rw [if_neg c] at h
      obtain ⟨h1, h2, h3, h4⟩ := ih h
      refine ⟨by omega, by omega, h3, fun j j1 j2 => ?_⟩
      by_cases e : j = at_
      · subst e
        exact Bool.eq_false_iff.mpr c
      · exact h4 j j1 (by omega)
theorem dn_none {l : List Int} {d : Nat} : ∀ {at_ : Int}, dn l d at_ = none → ∀ j, at_ - d < j → j ≤ at_ → work l j = false := by
  induction d with
  | zero => intro at_ h j h1 h2; omega
  | succ d ih =>
    intro at_ h j h1 h2
    simp only [dn] at h
    by_cases c : work l at_ = true
    · rw [if_pos c] at h
      cases h
    · rw [if_neg c] at h
      by_cases e : j = at_
      · subst e
        exact Bool.eq_false_iff.mpr c
      · exact ih h j (by omega) (by omega)

/-- The program's search, in both directions. -/
theorem seek_up (n : Int) (l : List Int) (hm : (l.length : Int) ≤ 9223372036854775807) (d : Nat) : ∀ (k : Nat) (at_ : Int), 1 ≤ at_ → at_ ≤ 3652060 → (3652060 - at_).toNat = d → d + l.length + 20002 ≤ k →
    (up l d at_ = none → period_Roll_1.l0 k 1 at_ l = some (0, 0, 0, 0, 5)) ∧ (∀ y m dd, ok y m dd → up l d at_ = some (num y m dd) → period_Roll_1.l0 k 1 at_ l = some (y, m, dd, num y m dd, 0)) := by
  induction d with
  | zero =>
    intro k at_ h1 h2 hd hk
    obtain ⟨k, rfl⟩ : ∃ j, k = j + 1 := ⟨k - 1, by omega⟩
    refine ⟨fun _ => ?_, fun y m dd o h => by simp [up] at h⟩
    simp only [period_Roll_1.l0]
    rw [to_no (by omega) k (by omega)]
    simp
  | succ d ih =>
    intro k at_ h1 h2 hd hk
    obtain ⟨k, rfl⟩ : ∃ j, k = j + 1 := ⟨k - 1, by omega⟩
    have ih' := ih k (at_ + 1) (by omega) (by omega) (by omega) (by omega)
    obtain ⟨y0, m0, d0, o0, e0, f0⟩ := to_ok (n := at_) h1 (by omega)
    simp only [period_Roll_1.l0, up]
    rw [f0 k (by omega)]
    simp only [Option.bind_some, if_true]
    rw [works_any at_ l hm k (by omega)]
    simp only [Option.bind_some]
    rw [w64 (n := at_ + 1) (by omega) (by omega)]
    by_cases c : work l at_ = true
    · rw [if_pos c, if_pos c]
      refine ⟨(fun h => nomatch h), fun y m dd o h => ?_⟩
      obtain ⟨rfl, rfl, rfl⟩ := num_inj o0 o (by rw [e0]; exact Option.some.inj h)
      rw [e0]
    · rw [if_neg c, if_neg c]
      exact ih'
theorem seek_dn (n : Int) (l : List Int) (hm : (l.length : Int) ≤ 9223372036854775807) (d : Nat) : ∀ (k : Nat) (at_ : Int), 0 ≤ at_ → at_ ≤ 3652059 → at_.toNat = d → d + l.length + 20002 ≤ k →
    (dn l d at_ = none → period_Roll_1.l0 k (-1) at_ l = some (0, 0, 0, 0, 5)) ∧ (∀ y m dd, ok y m dd → dn l d at_ = some (num y m dd) → period_Roll_1.l0 k (-1) at_ l = some (y, m, dd, num y m dd, 0)) := by
  induction d with
  | zero =>
    intro k at_ h1 h2 hd hk
    obtain ⟨k, rfl⟩ : ∃ j, k = j + 1 := ⟨k - 1, by omega⟩
    refine ⟨fun _ => ?_, fun y m dd o h => by simp [dn] at h⟩
    simp only [period_Roll_1.l0]
    rw [to_no (by omega) k (by omega)]
    simp
  | succ d ih =>
    intro k at_ h1 h2 hd hk
    obtain ⟨k, rfl⟩ : ∃ j, k = j + 1 := ⟨k - 1, by omega⟩
    have ih' := ih k (at_ - 1) (by omega) (by omega) (by omega) (by omega)
    obtain ⟨y0, m0, d0, o0, e0, f0⟩ := to_ok (n := at_) (by omega) (by omega)
    simp only [period_Roll_1.l0, dn]
    rw [f0 k (by omega)]
    simp only [Option.bind_some, if_true]
    rw [works_any at_ l hm k (by omega)]
    simp only [Option.bind_some]
    rw [show at_ + -1 = at_ - 1 by omega, w64 (n := at_ - 1) (by omega) (by omega)]
    by_cases c : work l at_ = true
    · rw [if_pos c, if_pos c]
      refine ⟨(fun h => nomatch h), fun y m dd o h => ?_⟩
      obtain ⟨rfl, rfl, rfl⟩ := num_inj o0 o (by rw [e0]; exact Option.some.inj h)
      rw [e0]
    · rw [if_neg c, if_neg c]
      exact ih'
/-- The document's. -/
theorem rseek_up (l : List Int) (hm : (l.length : Int) ≤ 9223372036854775807) (d : Nat) : ∀ (k : Nat) (at_ : Int), 1 ≤ at_ → at_ ≤ 3652060 → (3652060 - at_).toNat = d → 2 * d + l.length + 10 ≤ k → lombardref06_seek.l0 k at_ 1 l = some ((up l d at_).getD 0) := by
  induction d with
  | zero =>
    intro k at_ h1 h2 hd hk
    obtain ⟨k, rfl⟩ : ∃ j, k = j + 2 := ⟨k - 2, by omega⟩
    simp only [lombardref06_seek.l0, lombardref06_seek.j1, up]
    rw [if_pos (by omega), if_neg (by rw [decide_eq_true_eq]; omega)]
    rfl
  | succ d ih =>
    intro k at_ h1 h2 hd hk
    obtain ⟨k, rfl⟩ : ∃ j, k = j + 2 := ⟨k - 2, by omega⟩
    have ih' := ih k (at_ + 1) (by omega) (by omega) (by omega) (by omega)
    simp only [lombardref06_seek.l0, lombardref06_seek.j1, up]
    rw [if_pos (by omega), if_pos (by rw [decide_eq_true_eq]; omega), rworks_any at_ l hm k (by omega)]
    simp only [Option.bind_some]
    rw [w64 (n := at_ + 1) (by omega) (by omega)]
    by_cases c : work l at_ = true
    · rw [if_pos c, if_pos c]
      rfl
    · rw [if_neg c, if_neg c]
      exact ih'
theorem rseek_dn (l : List Int) (hm : (l.length : Int) ≤ 9223372036854775807) (d : Nat) : ∀ (k : Nat) (at_ : Int), 0 ≤ at_ → at_ ≤ 3652059 → at_.toNat = d → 2 * d + l.length + 10 ≤ k → lombardref06_seek.l0 k at_ (-1) l = some ((dn l d at_).getD 0) := by
  induction d with
  | zero =>
    intro k at_ h1 h2 hd hk
    obtain ⟨k, rfl⟩ : ∃ j, k = j + 2 := ⟨k - 2, by omega⟩
    simp only [lombardref06_seek.l0, lombardref06_seek.j1, dn]
    rw [if_neg (by omega), if_neg (by decide)]
    rfl
  | succ d ih =>
    intro k at_ h1 h2 hd hk
    obtain ⟨k, rfl⟩ : ∃ j, k = j + 2 := ⟨k - 2, by omega⟩
    have ih' := ih k (at_ - 1) (by omega) (by omega) (by omega) (by omega)
    simp only [lombardref06_seek.l0, lombardref06_seek.j1, dn]
    rw [if_pos (by omega), if_pos (by rw [decide_eq_true_eq]; omega), rworks_any at_ l hm k (by omega)]
    simp only [Option.bind_some]
    rw [show at_ + -1 = at_ - 1 by omega, w64 (n := at_ - 1) (by omega) (by omega)]
    by_cases c : work l at_ = true
    · rw [if_pos c, if_pos c]
      rfl
    · rw [if_neg c, if_neg c]
      exact ih'

theorem next_bd {l : List Int} {n m : Int} (h1 : 1 ≤ n) (h2 : n ≤ 3652059) (h : next l n = some m) : n ≤ m ∧ m ≤ 3652059 ∧ work l m = true ∧ ∀ j, n ≤ j → j < m → work l j = false := by
  obtain ⟨a, b, c, d⟩ := up_some h
  exact ⟨a, by omega, c, d⟩
theorem prev_bd {l : List Int} {n m : Int} (h1 : 1 ≤ n) (h2 : n ≤ 3652059) (h : prev l n = some m) : 1 ≤ m ∧ m ≤ n ∧ work l m = true ∧ ∀ j, m < j → j ≤ n → work l j = false := by
  obtain ⟨a, b, c, d⟩ := dn_some h
  exact ⟨by omega, a, c, d⟩
theorem next_none {l : List Int} {n : Int} (h1 : 1 ≤ n) (h2 : n ≤ 3652059) (h : next l n = none) : ∀ j, n ≤ j → j ≤ 3652059 → work l j = false := fun j a b => up_none h j a (by omega)
theorem prev_none {l : List Int} {n : Int} (h1 : 1 ≤ n) (h2 : n ≤ 3652059) (h : prev l n = none) : ∀ j, 1 ≤ j → j ≤ n → work l j = false := fun j a b => dn_none h j (by omega) b

/-- What the search down answers, but for the date. -/
theorem down_f (n : Int) (l : List Int) (hm : (l.length : Int) ≤ 1000) (h1 : 1 ≤ n) (h2 : n ≤ 3652059) (k : Nat) (hk : 4000000 ≤ k) : ∃ a b c, period_Roll_1.f k (-1) n l = some (a, b, c, (res (prev l n)).1, (res (prev l n)).2) := by
  unfold period_Roll_1.f
  have s := seek_dn n l (by omega) n.toNat k n (by omega) (by omega) rfl (by omega)
  cases hp : prev l n with
  | none => exact ⟨0, 0, 0, s.1 hp⟩
  | some m =>
    obtain ⟨a, b, _⟩ := prev_bd h1 h2 hp
    obtain ⟨y, mo, d, o, rfl⟩ := date_of m a (by omega)
    exact ⟨y, mo, d, s.2 y mo d o hp⟩

/-- In whose place which day is taken. -/
theorem roll_f {y m d : Int} (o : ok y m d) (way : Int) (l : List Int) (hm : (l.length : Int) ≤ 1000) (k : Nat) (hk : 8000000 ≤ k) :
    period_Roll.f k (num y m d) way l = lombardref06_Roll.f k (num y m d) way l ∧
    ((l.length : Int) ≤ 600 → period_Roll.f k (num y m d) 0 l = some (num y m d, 0) ∧ period_Roll.f k (num y m d) 1 l = some (res (next l (num y m d))) ∧ period_Roll.f k (num y m d) 3 l = some (res (prev l (num y m d))) ∧
      (next l (num y m d) = none → period_Roll.f k (num y m d) 2 l = some (res (prev l (num y m d)))) ∧
      (∀ y' m' d', ok y' m' d' → next l (num y m d) = some (num y' m' d') → period_Roll.f k (num y m d) 2 l = some (if y' = y ∧ m' = m then (num y' m' d', 0) else res (prev l (num y m d))))) := by
  obtain ⟨k, rfl⟩ : ∃ j, k = j + 4 := ⟨k - 4, by omega⟩
  have r := num_range o
  have t0 := to_num o (k + 4) (by omega)
  have t1 := DayRef.to_num o (k + 4) (by omega)
  obtain ⟨a0, b0, c0, hdn⟩ := down_f (num y m d) l hm r.1 r.2 (k + 3) (by omega)
  have hup := seek_up (num y m d) l (by omega) (3652060 - num y m d).toNat (k + 3) (num y m d) (by omega) (by omega) rfl (by omega)
  have ru := rseek_up l (by omega) (3652060 - num y m d).toNat (k + 2) (num y m d) (by omega) (by omega) rfl (by omega)
  have rd_ := rseek_dn l (by omega) (num y m d).toNat (k + 2) (num y m d) (by omega) (by omega) rfl (by omega)
  have hw := rworks_any (num y m d) l (by omega) (k + 3) (by omega)
  have hj : ∀ w, period_Roll.j0 (k + 4) w true (num y m d) l y m d = some (0, 2) := by
    intro w
    simp only [period_Roll.j0, if_true]
  have rj : ∀ w, lombardref06_Roll.j0 (k + 4) (num y m d) w l true y m d = some (0, 2) := by
    intro w
    simp only [lombardref06_Roll.j0, if_true]
  -- what the program's way answers, the errors aside
  have p0 : period_Roll.j0 (k + 4) 0 false (num y m d) l y m d = some (num y m d, 0) := by simp [period_Roll.j0]
  have p3 : period_Roll.j0 (k + 4) 3 false (num y m d) l y m d = some (res (prev l (num y m d))) := by
    simp only [period_Roll.j0]
    simp [hdn]
  have p1 : period_Roll.j0 (k + 4) 1 false (num y m d) l y m d = some (res (next l (num y m d))) := by
    simp only [period_Roll.j0, period_Roll_1.f]
    cases hn : next l (num y m d) with
    | none =>
      rw [hup.1 hn]
      simp [res]
    | some q =>
      obtain ⟨a, b, _⟩ := next_bd r.1 r.2 hn
      obtain ⟨y', m', d', o', rfl⟩ := date_of q (by omega) b
      rw [hup.2 y' m' d' o' hn]
      simp [res]
  have p2n : next l (num y m d) = none → period_Roll.j0 (k + 4) 2 false (num y m d) l y m d = some (res (prev l (num y m d))) := by
    intro hn
    simp only [period_Roll.j0, hdn]
    simp only [period_Roll_1.f]
    rw [hup.1 hn]
    simp
  have p2s : ∀ y' m' d', ok y' m' d' → next l (num y m d) = some (num y' m' d') → period_Roll.j0 (k + 4) 2 false (num y m d) l y m d = some (if y' = y ∧ m' = m then (num y' m' d', 0) else res (prev l (num y m d))) := by
    intro y' m' d' o' hn
    simp only [period_Roll.j0, hdn]
    simp only [period_Roll_1.f]
    rw [hup.2 y' m' d' o' hn]
    by_cases e1 : y' = y
    · by_cases e2 : m' = m
      · simp [e1, e2]
      · simp [e1, e2]
    · simp [e1]
  -- the document's way
  have rj3 : ∀ p q : Int, lombardref06_Roll.j3 (k + 1) p q true = some (if p = 0 then (0, 5) else (p, 0)) ∧ lombardref06_Roll.j3 (k + 1) p q false = some (if q = 0 then (0, 5) else (q, 0)) := by
    intro p q
    constructor
    · simp only [lombardref06_Roll.j3, if_true]
      split <;> rfl
    · simp only [lombardref06_Roll.j3, Bool.false_eq_true, if_false]
      split <;> rfl
  have rp : (if (prev l (num y m d)).getD 0 = 0 then ((0, 5) : Int × Int) else ((prev l (num y m d)).getD 0, 0)) = res (prev l (num y m d)) := by
    cases hp : prev l (num y m d) with
    | none => simp [res]
    | some q =>
      obtain ⟨a, _⟩ := prev_bd r.1 r.2 hp
      simp [res]
      omega
  have rn : (if (next l (num y m d)).getD 0 = 0 then ((0, 5) : Int × Int) else ((next l (num y m d)).getD 0, 0)) = res (next l (num y m d)) := by
    cases hp : next l (num y m d) with
    | none => simp [res]
    | some q =>
      obtain ⟨a, _⟩ := next_bd r.1 r.2 hp
      simp [res]
      omega
  have hwn : work l (num y m d) = true → next l (num y m d) = some (num y m d) ∧ prev l (num y m d) = some (num y m d) := by
    intro h
    constructor
    · unfold next
      obtain ⟨z, hz⟩ : ∃ z, (3652060 - num y m d).toNat = z + 1 := ⟨(3652060 - num y m d).toNat - 1, by omega⟩
      rw [hz]
      simp only [up]
      rw [if_pos h]
    · unfold prev
      obtain ⟨z, hz⟩ : ∃ z, (num y m d).toNat = z + 1 := ⟨(num y m d).toNat - 1, by omega⟩
      rw [hz]
      simp only [dn]
      rw [if_pos h]
  have q0 : lombardref06_Roll.j0 (k + 4) (num y m d) 0 l false y m d = some (num y m d, 0) := by
    simp [lombardref06_Roll.j0, lombardref06_Roll.j1]
  have qw : ∀ w, w = 1 ∨ w = 2 ∨ w = 3 → lombardref06_Roll.j0 (k + 4) (num y m d) w l false y m d = period_Roll.j0 (k + 4) w false (num y m d) l y m d := by
    intro w hw3
    by_cases c : work l (num y m d) = true
    · have hh := hwn c
      have e1 : lombardref06_Roll.j0 (k + 4) (num y m d) w l false y m d = some (num y m d, 0) := by
        simp only [lombardref06_Roll.j0, lombardref06_Roll.j1, hw, c]
        have : ¬ w = 0 := by omega
        simp [this]
      rw [e1]
      rcases hw3 with rfl | rfl | rfl
      · rw [p1, hh.1]
        rfl
      · rw [p2s y m d o hh.1]
        simp
      · rw [p3, hh.2]
        rfl
    · have c' : work l (num y m d) = false := Bool.eq_false_iff.mpr c
      have e1 : lombardref06_Roll.j0 (k + 4) (num y m d) w l false y m d = lombardref06_Roll.j2 (k + 2) w ((next l (num y m d)).getD 0) ((prev l (num y m d)).getD 0) (if w = 3 then (prev l (num y m d)).getD 0 else (next l (num y m d)).getD 0) y m d := by
        have : ¬ w = 0 := by omega
        simp only [lombardref06_Roll.j0, lombardref06_Roll.j1, hw, c', Bool.false_eq_true, if_false, this, Option.bind_some, lombardref06_seek.f, ru, rd_, next, prev]
        by_cases w3 : w = 3 <;> simp [w3]
      rw [e1]
      rcases hw3 with rfl | rfl | rfl
      · rw [p1]
        simp only [lombardref06_Roll.j2, show ¬ ((1 : Int) = 3) by decide, show ¬ ((1 : Int) = 2) by decide, if_false]
        rw [← rn]
        split <;> rfl
      · simp only [lombardref06_Roll.j2, show ¬ ((2 : Int) = 3) by decide, if_false, if_true]
        cases hn : next l (num y m d) with
        | none =>
          rw [p2n hn, ← rp]
          simp only [Option.getD_none]
          rw [DayRef.to_no (n := 0) (by omega) (k + 1) (by omega)]
          simp only [Option.bind_some, if_true]
          exact (rj3 _ _).1
        | some q =>
          obtain ⟨a, b, _⟩ := next_bd r.1 r.2 hn
          obtain ⟨y', m', d', o', rfl⟩ := date_of q (by omega) b
          rw [p2s y' m' d' o' hn, ← rp]
          simp only [Option.getD_some]
          rw [DayRef.to_num o' (k + 1) (by omega)]
          simp only [Option.bind_some]
          rw [if_neg (by omega)]
          by_cases e2 : m' = m
          · rw [if_pos e2]
            by_cases e1 : y' = y
            · have hb : (y' != y) = false := by simp [e1]
              rw [hb, (rj3 _ _).2, if_neg (by omega), if_pos ⟨e1, e2⟩]
            · have hb : (y' != y) = true := by simp [e1]
              rw [hb, (rj3 _ _).1, if_neg (c := y' = y ∧ m' = m) (fun h => e1 h.1)]
          · rw [if_neg e2, (rj3 _ _).1, if_neg (c := y' = y ∧ m' = m) (fun h => e2 h.2)]
      · rw [p3]
        simp only [lombardref06_Roll.j2, show ¬ ((3 : Int) = 2) by decide, if_false, if_true]
        rw [← rp]
        split <;> rfl
  have pf : ∀ w, period_Roll.f (k + 4) (num y m d) w l = if w < 0 ∨ w > 3 ∨ (l.length : Int) > 600 then some (0, 2) else period_Roll.j0 (k + 4) w false (num y m d) l y m d := by
    intro w
    unfold period_Roll.f
    rw [t0]
    simp only [Option.bind_some, if_true]
    by_cases c1 : w < 0
    · rw [if_pos c1, if_pos (.inl c1), hj]
    · rw [if_neg c1]
      by_cases c2 : w > 3
      · rw [if_pos c2, if_pos (.inr (.inl c2)), hj]
      · rw [if_neg c2]
        by_cases c3 : (l.length : Int) > 600
        · rw [decide_eq_true c3, if_pos (.inr (.inr c3)), hj]
        · rw [decide_eq_false c3, if_neg (by omega)]
  have qf : ∀ w, lombardref06_Roll.f (k + 4) (num y m d) w l = if w < 0 ∨ w > 3 ∨ (l.length : Int) > 600 then some (0, 2) else lombardref06_Roll.j0 (k + 4) (num y m d) w l false y m d := by
    intro w
    unfold lombardref06_Roll.f
    rw [t1]
    simp only [Option.bind_some, if_true]
    by_cases c1 : w < 0
    · rw [if_pos c1, if_pos (.inl c1), rj]
    · rw [if_neg c1]
      by_cases c2 : w > 3
      · rw [if_pos c2, if_pos (.inr (.inl c2)), rj]
      · rw [if_neg c2]
        by_cases c3 : (l.length : Int) > 600
        · rw [decide_eq_true c3, if_pos (.inr (.inr c3)), rj]
        · rw [decide_eq_false c3, if_neg (by omega)]
  constructor
  · rw [pf, qf]
    split
    · rfl
    · by_cases w0 : way = 0
      · subst w0
        rw [p0, q0]
      · exact (qw way (by omega)).symm
  · intro h6
    refine ⟨?_, ?_, ?_, ?_, ?_⟩
    · rw [pf, if_neg (by omega), p0]
    · rw [pf, if_neg (by omega), p1]
    · rw [pf, if_neg (by omega), p3]
    · intro hn
      rw [pf, if_neg (by omega), p2n hn]
    · intro y' m' d' o' hn
      rw [pf, if_neg (by omega), p2s y' m' d' o' hn]

theorem roll_no {n : Int} (h : n < 1 ∨ 3652059 < n) (way : Int) (l : List Int) (k : Nat) (hk : 1 ≤ k) : period_Roll.f k n way l = some (0, 5) ∧ lombardref06_Roll.f k n way l = some (0, 5) := by
  unfold period_Roll.f lombardref06_Roll.f
  rw [to_no h k hk, DayRef.to_no h k hk]
  simp
end Go.Proofs.Ytdfaedikjfbbjaa.PerRoll
end

section
namespace Go.Proofs.Ytdfaedikjfbbjaa.PerLaws
set_option linter.unusedVariables false
set_option linter.unusedSimpArgs false
open Go.RowKit Go.Proofs.Ytdfaedikjfbbjaa.S Go.Proofs.Ytdfaedikjfbbjaa.XNum Go.Proofs.Ytdfaedikjfbbjaa.Cal Go.Proofs.Ytdfaedikjfbbjaa.DayPure Go.Proofs.Ytdfaedikjfbbjaa.PerPure Go.Proofs.Ytdfaedikjfbbjaa.PerRoll Go.Proofs.YtdfaedikjfbbjaaW.PrintWords Go.Proofs.YtdfaedikjfbbjaaW.PrintLast

theorem on_ok {y m d : Int} (h : ok y m d) (k : Nat) (hk : 20000 ≤ k) : lombardlaw06_on.f k y m d = some (num y m d) := by
  unfold lombardlaw06_on.f
  rw [from_ok h k (by omega)]
  rfl

theorem alive (k : Nat) (hk : 8000000 ≤ k) : lombardlaw06_alive.f k = some true := by
  have o1 : ok 2020 1 31 := by decide
  have o2 : ok 2020 2 29 := by decide
  have o3 : ok 2020 3 2 := by decide
  have n2 : num 2020 2 29 = 737484 := by decide
  have m1 : monthsAll 2020 1 31 1 false = (737484, 0) := by decide
  have m2 : monthsAll 2020 2 29 1 true = (737515, 0) := by decide
  have hnx : next [] 737484 = some 737486 := by
    unfold next
    have e : ((3652060 : Int) - 737484).toNat = 2914573 + 3 := by decide
    have h : ∀ z, PerRoll.up [] (z + 3) 737484 = some 737486 := by
      intro z
      simp [PerRoll.up, work]
    rw [e]
    exact h _
  have hpv : prev [] 737484 = some 737483 := by
    unfold prev
    have e : (737484 : Int).toNat = 737482 + 2 := by decide
    have h : ∀ z, PerRoll.dn [] (z + 2) 737484 = some 737483 := by
      intro z
      simp [PerRoll.dn, work]
    rw [e]
    exact h _
  have rr := (roll_f o2 0 [] (by simp) k hk).2 (by simp)
  have n3 : num 2020 3 2 = 737486 := by decide
  have r2 := rr.2.2.2.2 2020 3 2 o3 (by rw [n2, n3]; exact hnx)
  have r1 := rr.2.1
  rw [n2, hnx] at r1
  rw [n2, hpv] at r2
  unfold lombardlaw06_alive.f
  rw [on_ok o1 k (by omega), on_ok o2 k (by omega)]
  simp only [Option.bind_some]
  rw [months_f o1 1 false k (by omega), months_f o2 1 true k (by omega), m1, m2, n2]
  simp only [Option.bind_some]
  rw [r1, r2]
  simp [res]
end Go.Proofs.Ytdfaedikjfbbjaa.PerLaws
end

section
namespace Go.Proofs.Ytdfaedikjfbbjaa.PerRow
set_option linter.unusedVariables false
set_option linter.unusedSimpArgs false
open Go.RowKit Go.Proofs.Ytdfaedikjfbbjaa.S Go.Proofs.Ytdfaedikjfbbjaa.XNum Go.Proofs.Ytdfaedikjfbbjaa.Cal Go.Proofs.Ytdfaedikjfbbjaa.DayPure Go.Proofs.Ytdfaedikjfbbjaa.PerPure Go.Proofs.YtdfaedikjfbbjaaW.PrintWords Go.Proofs.YtdfaedikjfbbjaaW.PrintLast

theorem row_all (g : Int → Int × Int) (r : Nat) : ∀ (i : Int) (acc : List Int), (∀ j : Nat, j < r → (g (i + j)).2 = 0) → row g r i acc = (acc ++ (List.range r).map (fun j => (g (i + (j : Nat))).1), 0) := by
  induction r with
  | zero => intro i acc _; simp [row]
  | succ r ih =>
    intro i acc h
    have h0 := h 0 (by omega)
    rw [show i + ((0 : Nat) : Int) = i by omega] at h0
    have h1 := ih (i + 1) (acc ++ [(g i).1]) (fun j hj => by
      have := h (j + 1) (by omega)
      rw [show i + ((j + 1 : Nat) : Int) = i + 1 + j by omega] at this
      exact this)
    simp only [row]
    rw [if_pos h0, h1, List.range_succ_eq_map]
    simp only [List.map_cons, List.map_map, List.append_assoc, List.singleton_append]
    congr 3
    · rw [show i + ((0 : Nat) : Int) = i by omega]
    · apply List.map_congr_left
      intro j _
      show (g (i + 1 + (j : Int))).1 = (g (i + ((j + 1 : Nat) : Int))).1
      rw [show i + ((j + 1 : Nat) : Int) = i + 1 + j by omega]
theorem row_ok (g : Int → Int × Int) (r : Nat) : ∀ (i : Int) (acc : List Int), (row g r i acc).2 = 0 → ∀ j : Nat, j < r → (g (i + j)).2 = 0 := by
  induction r with
  | zero => intro i acc _ j hj; omega
  | succ r ih =>
    intro i acc h j hj
    simp only [row] at h
    by_cases c : (g i).2 = 0
    · rw [if_pos c] at h
      cases j with
      | zero => rw [show i + ((0 : Nat) : Int) = i by omega]; exact c
      | succ j =>
        have := ih (i + 1) _ h j (by omega)
        rw [show i + ((j + 1 : Nat) : Int) = i + 1 + j by omega]
        exact this
    · rw [if_neg c] at h
      exact absurd h c
theorem row_err (g : Int → Int × Int) (r : Nat) : ∀ (i : Int) (acc : List Int), (row g r i acc).2 ≠ 0 → (row g r i acc).1 = [] := by
  induction r with
  | zero => intro i acc h; exact absurd rfl h
  | succ r ih =>
    intro i acc h
    simp only [row] at h ⊢
    by_cases c : (g i).2 = 0
    · rw [if_pos c] at h ⊢
      exact ih _ _ h
    · rw [if_neg c]
theorem rowOf_err (n step times : Int) (e : Bool) (h : (rowOf n step times e).2 ≠ 0) : (rowOf n step times e).1 = [] := by
  unfold rowOf at h ⊢
  split
  · rename_i c
    rw [if_pos c] at h
    exact row_err _ _ _ _ h
  · rfl

/-- A row's j-th day. -/
noncomputable def nth (n step : Int) (e : Bool) (j : Nat) : Int × Int := mon n ((1 + (j : Int)) * step) e
theorem rowOf_all (n step times : Int) (e : Bool) (h1 : 1 ≤ step) (h2 : step ≤ 12) (h3 : 0 ≤ times) (h4 : times ≤ 600) (h : ∀ j : Nat, (j : Int) < times → (nth n step e j).2 = 0) :
    rowOf n step times e = ((List.range times.toNat).map (fun j => (nth n step e j).1), 0) := by
  unfold rowOf
  rw [if_pos ⟨h1, h2, h3, h4⟩, row_all _ _ _ _ (fun j hj => h j (by omega)), List.nil_append]
  rfl
theorem rowOf_ok (n step times : Int) (e : Bool) (h : (rowOf n step times e).2 = 0) : 1 ≤ step ∧ step ≤ 12 ∧ 0 ≤ times ∧ times ≤ 600 ∧ ∀ j : Nat, (j : Int) < times → (nth n step e j).2 = 0 := by
  unfold rowOf at h
  by_cases c : 1 ≤ step ∧ step ≤ 12 ∧ 0 ≤ times ∧ times ≤ 600
  · rw [if_pos c] at h
    exact ⟨c.1, c.2.1, c.2.2.1, c.2.2.2, fun j hj => row_ok _ _ _ _ h j (by omega)⟩
  · rw [if_neg c] at h
    exact absurd h (by decide)

/-- Months on, where there is such a day. -/
theorem monthsAll_ok {y m d : Int} (h : ok y m d) (x : Int) (e : Bool) (h0 : (monthsAll y m d x e).2 = 0) :
    ∃ y' m' d', ok y' m' d' ∧ 12 * y' + m' - 1 = 12 * y + m - 1 + x ∧ (monthsAll y m d x e).1 = num y' m' d' ∧ d' = (if (e = true ∧ d = dim y m) ∨ d > dim y' m' then dim y' m' else d) := by
  unfold monthsAll at h0 ⊢
  by_cases c : x < -12000 ∨ x > 12000
  · rw [if_pos c] at h0
    exact absurd h0 (by decide)
  rw [if_neg c] at h0 ⊢
  unfold monthsOf at h0 ⊢
  dsimp only at h0 ⊢
  generalize hd : (if (e = true ∧ d = dim y m) ∨ d > last ((12 * y + m - 1 + x) / 12) ((12 * y + m - 1 + x) % 12 + 1) then last ((12 * y + m - 1 + x) / 12) ((12 * y + m - 1 + x) % 12 + 1) else d) = d' at h0 ⊢
  by_cases o : ok ((12 * y + m - 1 + x) / 12) ((12 * y + m - 1 + x) % 12 + 1) d'
  · rw [if_pos o]
    have hl : last ((12 * y + m - 1 + x) / 12) ((12 * y + m - 1 + x) % 12 + 1) = dim ((12 * y + m - 1 + x) / 12) ((12 * y + m - 1 + x) % 12 + 1) := by
      unfold last
      rw [if_pos ⟨o.1, o.2.1, o.2.2.1, o.2.2.2.1⟩]
    rw [hl] at hd
    exact ⟨_, _, d', o, by omega, rfl, hd.symm⟩
  · rw [if_neg o] at h0
    exact absurd h0 (by decide)
/-- .. and there is one, well ahead of the last year. -/
theorem monthsAll_in {y m d : Int} (h : ok y m d) (x : Int) (e : Bool) (hx : 0 ≤ x) (hx2 : x ≤ 7300) (hy : y ≤ 9000) : (monthsAll y m d x e).2 = 0 := by
  obtain ⟨a, b, c, f, g, i⟩ := h
  have hb := dim_bd ((12 * y + m - 1 + x) / 12) ((12 * y + m - 1 + x) % 12 + 1)
  have hl : last ((12 * y + m - 1 + x) / 12) ((12 * y + m - 1 + x) % 12 + 1) = dim ((12 * y + m - 1 + x) / 12) ((12 * y + m - 1 + x) % 12 + 1) := by
    unfold last
    rw [if_pos (by omega)]
  unfold monthsAll monthsOf
  rw [if_neg (by omega)]
  dsimp only
  rw [hl]
  rw [if_pos]
  refine ⟨by omega, by omega, by omega, by omega, ?_, ?_⟩
  · split <;> omega
  · split <;> omega

theorem nth_num {y m d : Int} (h : ok y m d) (step : Int) (e : Bool) (j : Nat) : nth (num y m d) step e j = monthsAll y m d ((1 + (j : Int)) * step) e := mon_num h _ _
theorem nth_some {n step : Int} {e : Bool} {j : Nat} (h : (nth n step e j).2 = 0) : 1 ≤ n ∧ n ≤ 3652059 := by
  by_cases c : 1 ≤ n ∧ n ≤ 3652059
  · exact c
  · unfold nth at h
    rw [mon_no (by omega)] at h
    exact absurd h (by decide)
theorem rd_range (f : Nat → Int) (r : Nat) (i : Int) (h0 : 0 ≤ i) (h1 : i < r) : rd ((List.range r).map f) i = f i.toNat := by
  unfold rd
  have hi : i.toNat < ((List.range r).map f).length := by simp; omega
  rw [List.getD_eq_getElem?_getD, List.getElem?_eq_getElem hi]
  simp
end Go.Proofs.Ytdfaedikjfbbjaa.PerRow
end

section
namespace Go.Proofs.Ytdfaedikjfbbjaa.Pure
set_option linter.unusedVariables false
set_option linter.unusedSimpArgs false
open Go.RowKit Go.Proofs.Ytdfaedikjfbbjaa.S Go.Proofs.Ytdfaedikjfbbjaa.XNum Go.Proofs.Ytdfaedikjfbbjaa.Cal Go.Proofs.Ytdfaedikjfbbjaa.DayPure Go.Proofs.Ytdfaedikjfbbjaa.PerPure Go.Proofs.Ytdfaedikjfbbjaa.PerRow Go.Proofs.YtdfaedikjfbbjaaW.PrintWords Go.Proofs.YtdfaedikjfbbjaaW.PrintLast

theorem ends_l0 {y m d : Int} (o : ok y m d) (oe : ok y m (dim y m)) (step times : Int) (h1 : 1 ≤ step) (h2 : step ≤ 12) (h3 : 0 ≤ times) (h4 : times ≤ 30) (hy : y ≤ 9000) (r : Nat) :
    ∀ (k : Nat) (i : Int), 0 ≤ i → i ≤ times → (times - i).toNat = r → r + 30001 ≤ k →
    lombardlaw06_PeriodEnds.l0 k ((List.range times.toNat).map (fun j => (nth (num y m (dim y m)) step true j).1)) ((List.range times.toNat).map (fun j => (nth (num y m d) step false j).1)) times i y m d = some true := by
  have hlen : (((List.range times.toNat).map (fun j => (nth (num y m (dim y m)) step true j).1)).length : Int) = times := by
    simp
    omega
  have hlen2 : (((List.range times.toNat).map (fun j => (nth (num y m d) step false j).1)).length : Int) = times := by
    simp
    omega
  induction r with
  | zero =>
    intro k i hi hi2 hr hk
    obtain ⟨k, rfl⟩ : ∃ j, k = j + 1 := ⟨k - 1, by omega⟩
    simp only [lombardlaw06_PeriodEnds.l0]
    rw [if_neg (by omega)]
  | succ r ih =>
    intro k i hi hi2 hr hk
    obtain ⟨k, rfl⟩ : ∃ j, k = j + 1 := ⟨k - 1, by omega⟩
    have b0 : 0 ≤ (1 + (i.toNat : Int)) * step := Int.mul_nonneg (by omega) (by omega)
    have b1 : (1 + (i.toNat : Int)) * step ≤ 31 * 12 := Int.mul_le_mul (by omega) h2 (by omega) (by omega)
    obtain ⟨y1, m1, d1, o1, e1, f1, g1⟩ := monthsAll_ok oe ((1 + (i.toNat : Int)) * step) true (monthsAll_in oe _ true b0 (by omega) hy)
    obtain ⟨y2, m2, d2, o2, e2, f2, g2⟩ := monthsAll_ok o ((1 + (i.toNat : Int)) * step) false (monthsAll_in o _ false b0 (by omega) hy)
    have hy12 : y1 = y2 := by
      obtain ⟨_, _, p1, p2, _⟩ := o1
      obtain ⟨_, _, q1, q2, _⟩ := o2
      omega
    have hm12 : m1 = m2 := by
      obtain ⟨_, _, p1, p2, _⟩ := o1
      obtain ⟨_, _, q1, q2, _⟩ := o2
      omega
    subst hy12 hm12
    have r1 : rd ((List.range times.toNat).map (fun j => (nth (num y m (dim y m)) step true j).1)) i = num y1 m1 d1 := by
      rw [rd_range _ _ i hi (by omega), nth_num oe]
      exact f1
    have r2 : rd ((List.range times.toNat).map (fun j => (nth (num y m d) step false j).1)) i = num y1 m1 d2 := by
      rw [rd_range _ _ i hi (by omega), nth_num o]
      exact f2
    have hl : last y1 m1 = dim y1 m1 := by
      obtain ⟨p, q, r, s, _⟩ := o1
      unfold last
      rw [if_pos (by omega)]
    have d1e : d1 = dim y1 m1 := by
      rw [g1, if_pos (.inl ⟨rfl, rfl⟩)]
    have d2e : d2 = mn d (dim y1 m1) := by
      rw [g2]
      unfold mn
      by_cases c : d > dim y1 m1
      · rw [if_pos (.inr c)]
        split <;> omega
      · rw [if_neg (by rintro (⟨h, _⟩ | h); exact absurd h (by decide); exact c h)]
        split <;> omega
    have := ih k (i + 1) (by omega) (by omega) (by omega) (by omega)
    simp only [lombardlaw06_PeriodEnds.l0]
    rw [if_pos (by omega), if_pos hi, if_pos (by omega), r1, r2, to_num o1 k (by omega), to_num o2 k (by omega)]
    simp only [Option.bind_some]
    rw [if_pos (by omega), last_ev y1 m1 k (by omega), hl]
    simp only [Option.bind_some, if_true]
    rw [if_pos d1e, if_pos d2e, w64 (n := i + 1) (by omega) (by omega)]
    exact this

theorem PeriodEnds : lombardlaw06_PeriodEnds.Pure := by
  intro n step times _ hs ht
  have hs := wfu8.1 hs
  have ht := wfu8.1 ht
  refine ⟨9000000, ?_⟩
  have hk : (9000000 : Nat) = 8999998 + 1 + 1 := rfl
  have t : ∀ y m d, lombardlaw06_PeriodEnds.j0 9000000 n step times true y m d = some true := by
    intro y m d
    rw [hk]
    simp only [lombardlaw06_PeriodEnds.j0, if_true]
  unfold lombardlaw06_PeriodEnds.f
  rw [PerLaws.alive 9000000 (by omega)]
  simp only [Option.bind_some, if_true]
  by_cases c : 1 ≤ n ∧ n ≤ 3652059
  · obtain ⟨y, m, d, o, rfl⟩ := date_of n c.1 c.2
    rw [to_num o 9000000 (by omega)]
    simp only [Option.bind_some, if_true]
    by_cases c1 : y > 9000
    · rw [decide_eq_true c1]
      exact t _ _ _
    rw [decide_eq_false c1, hk]
    have oo := o
    obtain ⟨a1, a2, a3, a4, a5, a6⟩ := oo
    have hb := dim_bd y m
    have oe : ok y m (dim y m) := ⟨a1, a2, a3, a4, by omega, by omega⟩
    have hl : last y m = dim y m := by
      unfold last
      rw [if_pos (by omega)]
    have hs1 : 1 ≤ step % 12 + 1 := by omega
    have hs2 : step % 12 + 1 ≤ 12 := by omega
    have ht1 : 0 ≤ times % 30 := by omega
    have ht2 : times % 30 ≤ 30 := by omega
    have hin : ∀ (d' : Int) (e : Bool), ok y m d' → ∀ j : Nat, (j : Int) < times % 30 → (nth (num y m d') (step % 12 + 1) e j).2 = 0 := by
      intro d' e o' j hj
      have b0 : 0 ≤ (1 + (j : Int)) * (step % 12 + 1) := Int.mul_nonneg (by omega) (by omega)
      have b1 : (1 + (j : Int)) * (step % 12 + 1) ≤ 31 * 12 := Int.mul_le_mul (by omega) hs2 (by omega) (by omega)
      rw [nth_num o']
      exact monthsAll_in o' _ e b0 (by omega) (by omega)
    have hend := ends_l0 o oe (step % 12 + 1) (times % 30) hs1 hs2 ht1 ht2 (by omega) (times % 30).toNat 8999998 0 (by omega) (by omega) (by omega) (by omega)
    have hlen : (((List.range (times % 30).toNat).map (fun j => (nth (num y m (dim y m)) (step % 12 + 1) true j).1)).length : Int) = times % 30 := by
      simp
      omega
    have hlen2 : (((List.range (times % 30).toNat).map (fun j => (nth (num y m d) (step % 12 + 1) false j).1)).length : Int) = times % 30 := by
      simp
      omega
    simp only [lombardlaw06_PeriodEnds.j0, Bool.false_eq_true, if_false]
    rw [last_ev y m (8999998 + 1) (by omega), hl]
    simp only [Option.bind_some]
    rw [from_ok oe (8999998 + 1) (by omega)]
    simp only [Option.bind_some, if_true]
    rw [w64 (n := step) (by omega) (by omega), w64 (n := times) (by omega) (by omega), tm_nn (by omega), tm_nn (by omega), w64 (n := step % 12 + 1) (by omega) (by omega)]
    rw [dates_any _ _ _ true (8999998 + 1) (by omega), dates_any _ _ _ false (8999998 + 1) (by omega), rowOf_all _ _ _ true hs1 hs2 ht1 (by omega) (hin _ true oe), rowOf_all _ _ _ false hs1 hs2 ht1 (by omega) (hin _ false o)]
    simp only [Option.bind_some, if_true]
    rw [hlen, hlen2, bne_self_eq_false]
    simp only [lombardlaw06_PeriodEnds.j1, Bool.false_eq_true, if_false]
    rw [hlen]
    exact hend
  · rw [to_no (by omega) 9000000 (by omega)]
    simp only [Option.bind_some]
    rw [if_neg (by omega)]
    exact t _ _ _
end Go.Proofs.Ytdfaedikjfbbjaa.Pure
end

section
namespace Go.Proofs.Ytdfaedikjfbbjaa.periodEnds
open Go.ChangeShapes Go.WideShapes Go.ChangeAt Go.RowKit
open Go.ChangeMaps (open_string shut_string)
set_option linter.unusedVariables false
theorem own : ownKnob Try.prog.godebug = none := by kernel_rfl
set_option maxRecDepth 100000 in
theorem lifted (os : Os) (started : os.Started) (H : Type) (enc : TypeId × Value → H) :
    ReturnsInHanded {} Try.checked os 13 .any (Rows.periodEndsSpec.pre6 enc Try.prog Try.f13 Rows.periodEndsRow.domain false) (Rows.periodEndsSpec.post enc Try.prog Try.f13 false true false false) := by
  refine returnsInHanded_of_change_sized (C := Try.checked) own started (by kernel_rfl) Try.func13
    (ChangeSpec.witness6 (enc := enc) (C := Try.checked) false ⟨#[], #[.int .i64 0, .int .u8 0, .int .u8 0], []⟩ 8 (by kernel_rfl) (by kernel_rfl) (by kernel_rfl) (by kernel_rfl)) ?_
  intro W base args ds gs before hval0 hW hcnd hsz0 _
  have hsz : (DataW.weightsEach Try.prog (Try.f13.params.toList ++ Rows.periodEndsSpec.plain.varTypes Try.prog) (ds ++ gs)).all (· ≤ reachBytes) = true := hsz0
  have hval : ∀ (j : Nat) t v, Try.f13.params[j]? = some t → args[j]? = some v → Value.okWide Try.prog W .any base t v := hval0
  have hW' := hW
  obtain ⟨p, q, hA0, hV, rfl, hfz, hnd⟩ := hW
  have hA : DataW.TrodAll enc Try.prog W 0 (fun _ => true) true Try.f13.params.toList args.toList ds p := hA0
  rw [Try.params13] at hA hval hsz
  obtain ⟨v0, vs0, d0, ds0, p0, q0, hargs, rfl, rfl, h0, r0⟩ := trodAll_cons hA
  obtain ⟨v1, vs1, d1, ds1, p1, q1, rfl, rfl, rfl, h1, r1⟩ := trodAll_cons r0
  obtain ⟨v2, vs2, d2, ds2, p2, q2, rfl, rfl, rfl, h2, r2⟩ := trodAll_cons r1
  obtain ⟨rfl, rfl, rfl⟩ := trodAll_nil r2
  obtain rfl : args = #[v0, v1, v2] := by cases args; simp_all
  obtain ⟨rfl, rfl⟩ := trodVars_none hV
  obtain ⟨a0, rfl, rfl, rfl, w0⟩ := open_int Try.underlying3 (hval 0 3 v0 rfl rfl) h0
  obtain ⟨a1, rfl, rfl, rfl, w1⟩ := open_int Try.underlying5 (hval 1 5 v1 rfl rfl) h1
  obtain ⟨a2, rfl, rfl, rfl, w2⟩ := open_int Try.underlying5 (hval 2 5 v2 rfl rfl) h2
  clear hA0 hval0 hsz0 hsz
  refine (S.lombardlaw06_PeriodEnds.walk Pure.PeriodEnds a0 a1 a2 W w0 w1 w2).mono fun e W' ⟨he, bel⟩ => ?_
  subst he
  exact ⟨_, rfl, _, _, _, [], _, [], hW', trodAll_mk1 (shut_bool Try.underlying4 _), (trodAll_cons_mk (shut_int Try.underlying3 w0) (trodAll_cons_mk (shut_int Try.underlying5 w1) (trodAll_cons_mk (shut_int Try.underlying5 w2) trodAll_mk0))), rfl, bel.frame _, fun h => by cases h⟩
theorem over : Rows.periodEndsRow.holds Try.pinned (OpenSpec.ofChange Rows.periodEndsSpec) :=
  OpenClaim.holds_of_wide 13 Try.f13 rfl rfl rfl rfl rfl rfl rfl ⟨rfl, rfl, rfl, rfl, rfl⟩ rfl rfl rfl rfl rfl (by kernel_rfl) Try.func13 (by kernel_rfl)
    (of_decide_eq_true (by kernel_rfl)) (by unfold Func.isWrapper; first | (rw [if_pos (by decide +kernel)]; kernel_rfl) | (rw [if_neg (by decide +kernel)]; exact ⟨rfl, rfl⟩))
    (fun os started H enc _ => lifted os started H enc)
theorem proved : Rows.PeriodEndsSaid := over
#print axioms proved
end Go.Proofs.Ytdfaedikjfbbjaa.periodEnds
namespace Go.Proofs.Ytdfaedikjfbbjaa
/-- The row, under a short name, for the claim. -/
theorem periodEnds_holds : Rows.PeriodEndsSaid := periodEnds.proved
end Go.Proofs.Ytdfaedikjfbbjaa
end
