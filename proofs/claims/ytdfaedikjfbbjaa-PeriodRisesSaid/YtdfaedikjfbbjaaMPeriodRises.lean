/- The statement PeriodRisesSaid: for every input the law returns true, and each argument reads afterwards as it read before. Conditions: none. -/
import Derived.Test.YtdfaedikjfbbjaaPerPure
import Derived.Test.YtdfaedikjfbbjaaSxPeriodRoll
import Derived.Test.YtdfaedikjfbbjaaSxLombardref06Roll
import Derived.Test.YtdfaedikjfbbjaaSxLombardlaw06Alive
import Derived.Test.YtdfaedikjfbbjaaSxLombardlaw06PeriodRises
import Derived.Test.YtdfaedikjfbbjaaWWords
import Derived.ChangeArms
import Derived.DataReads
import Derived.WideShapes
import Derived.Deep.Slices
import Derived.Test.YtdfaedikjfbbjaaRows
import Derived.WalkKit
import Derived.ProofKit
import Derived.OpenShut
import Derived.ShutString
import Derived.ChangeOld
import Derived.Below
import Derived.SizedLaws
import Derived.Carry
section
namespace Go.Proofs.Ytdfaedikjfbbjaa.PerRoll
set_option linter.unusedVariables false
set_option linter.unusedSimpArgs false
open Go.RowKit Go.Proofs.Ytdfaedikjfbbjaa.S Go.Proofs.Ytdfaedikjfbbjaa.XNum Go.Proofs.Ytdfaedikjfbbjaa.Cal Go.Proofs.Ytdfaedikjfbbjaa.DayPure Go.Proofs.Ytdfaedikjfbbjaa.PerPure Go.Proofs.YtdfaedikjfbbjaaW.PrintWords Go.Proofs.YtdfaedikjfbbjaaW.PrintLast

def up (l : List Int) : Nat → Int → Option Int
  | 0, _ => none
  | d + 1, at_ => if work l at_ = true then some at_ else up l d (at_ + 1)
def dn (l : List Int) : Nat → Int → Option Int
  | 0, _ => none
  | d + 1, at_ => if work l at_ = true then some at_ else dn l d (at_ - 1)
/-- The next day that works, and the last one. -/
def next (l : List Int) (n : Int) : Option Int := up l (3652060 - n).toNat n
def prev (l : List Int) (n : Int) : Option Int := dn l n.toNat n
def res : Option Int → Int × Int
  | some m => (m, 0)
  | none => (0, 5)

theorem up_some {l : List Int} {d : Nat} : ∀ {at_ m : Int}, up l d at_ = some m → at_ ≤ m ∧ m < at_ + d ∧ work l m = true ∧ ∀ j, at_ ≤ j → j < m → work l j = false := by
  induction d with
  | zero => intro at_ m h; simp [up] at h
  | succ d ih =>
    intro at_ m h
    simp only [up] at h
    by_cases c : work l at_ = true
    · rw [if_pos c] at h
      obtain rfl := Option.some.inj h
      exact ⟨by omega, by omega, c, fun j h1 h2 => by omega⟩
    · rw [if_neg c] at h
      obtain ⟨h1, h2, h3, h4⟩ := ih h
      refine ⟨by omega, by omega, h3, fun j j1 j2 => ?_⟩
      by_cases e : j = at_
      · subst e
        exact Bool.eq_false_iff.mpr c
      · exact h4 j (by omega) j2
theorem up_none {l : List Int} {d : Nat} : ∀ {at_ : Int}, up l d at_ = none → ∀ j, at_ ≤ j → j < at_ + d → work l j = false := by
  induction d with
  | zero => intro at_ h j h1 h2; omega
  | succ d ih =>
    intro at_ h j h1 h2
    simp only [up] at h
    by_cases c : work l at_ = true
    · rw [if_pos c] at h
      cases h
    · rw [if_neg c] at h
      by_cases e : j = at_
      · subst e
        exact Bool.eq_false_iff.mpr c
      · exact ih h j (by omega) (by omega)
theorem dn_some {l : List Int} {d : Nat} : ∀ {at_ m : Int}, dn l d at_ = some m → m ≤ at_ ∧ at_ < m + d ∧ work l m = true ∧ ∀ j, m < j → j ≤ at_ → work l j = false := by
  induction d with
  | zero => intro at_ m h; simp [dn] at h
  | succ d ih =>
    intro at_ m h
    simp only [dn] at h
    by_cases c : work l at_ = true
    · rw [if_pos c] at h
      obtain rfl := Option.some.inj h
      exact ⟨by omega, by omega, c, fun j h1 h2 => by omega⟩
    · rw [if_neg c] at h
      obtain ⟨h1, h2, h3, h4⟩ := ih h
      refine ⟨by omega, by omega, h3, fun j j1 j2 => ?_⟩
      by_cases e : j = at_
      · subst e
        exact Bool.eq_false_iff.mpr c
      · exact h4 j j1 (by omega)
theorem dn_none {l : List Int} {d : Nat} : ∀ {at_ : Int}, dn l d at_ = none → ∀ j, at_ - d < j → j ≤ at_ → work l j = false := by
  induction d with
  | zero => intro at_ h j h1 h2; omega
  | succ d ih =>
    intro at_ h j h1 h2
    simp only [dn] at h
    by_cases c : work l at_ = true
    · rw [if_pos c] at h
      cases h
    · rw [if_neg c] at h
      by_cases e : j = at_
      · subst e
        exact Bool.eq_false_iff.mpr c
      · exact ih h j (by omega) (by omega)

/-- The program's search, in both directions. -/
theorem seek_up (n : Int) (l : List Int) (hm : (l.length : Int) ≤ 9223372036854775807) (d : Nat) : ∀ (k : Nat) (at_ : Int), 1 ≤ at_ → at_ ≤ 3652060 → (3652060 - at_).toNat = d → d + l.length + 20002 ≤ k →
    (up l d at_ = none → period_Roll_1.l0 k 1 at_ l = some (0, 0, 0, 0, 5)) ∧ (∀ y m dd, ok y m dd → up l d at_ = some (num y m dd) → period_Roll_1.l0 k 1 at_ l = some (y, m, dd, num y m dd, 0)) := by
  induction d with
  | zero =>
    intro k at_ h1 h2 hd hk
    obtain ⟨k, rfl⟩ : ∃ j, k = j + 1 := ⟨k - 1, by omega⟩
    refine ⟨fun _ => ?_, fun y m dd o h => by simp [up] at h⟩
    simp only [period_Roll_1.l0]
    rw [to_no (by omega) k (by omega)]
    simp
  | succ d ih =>
    intro k at_ h1 h2 hd hk
    obtain ⟨k, rfl⟩ : ∃ j, k = j + 1 := ⟨k - 1, by omega⟩
    have ih' := ih k (at_ + 1) (by omega) (by omega) (by omega) (by omega)
    obtain ⟨y0, m0, d0, o0, e0, f0⟩ := to_ok (n := at_) h1 (by omega)
    simp only [period_Roll_1.l0, up]
    rw [f0 k (by omega)]
    simp only [Option.bind_some, if_true]
    rw [works_any at_ l hm k (by omega)]
    simp only [Option.bind_some]
    rw [w64 (n := at_ + 1) (by omega) (by omega)]
    by_cases c : work l at_ = true
    · rw [if_pos c, if_pos c]
      refine ⟨(fun h => nomatch h), fun y m dd o h => ?_⟩
      obtain ⟨rfl, rfl, rfl⟩ := num_inj o0 o (by rw [e0]; exact Option.some.inj h)
      rw [e0]
    · rw [if_neg c, if_neg c]
      exact ih'
theorem seek_dn (n : Int) (l : List Int) (hm : (l.length : Int) ≤ 9223372036854775807) (d : Nat) : ∀ (k : Nat) (at_ : Int), 0 ≤ at_ → at_ ≤ 3652059 → at_.toNat = d → d + l.length + 20002 ≤ k →
    (dn l d at_ = none → period_Roll_1.l0 k (-1) at_ l = some (0, 0, 0, 0, 5)) ∧ (∀ y m dd, ok y m dd → dn l d at_ = some (num y m dd) → period_Roll_1.l0 k (-1) at_ l = some (y, m, dd, num y m dd, 0)) := by
  induction d with
  | zero =>
    intro k at_ h1 h2 hd hk
    obtain ⟨k, rfl⟩ : ∃ j, k = j + 1 := ⟨k - 1, by omega⟩
    refine ⟨fun _ => ?_, fun y m dd o h => by simp [dn] at h⟩
    simp only [period_Roll_1.l0]
    rw [to_no (by omega) k (by omega)]
    simp
  | succ d ih =>
    intro k at_ h1 h2 hd hk
    obtain ⟨k, rfl⟩ : ∃ j, k = j + 1 := ⟨k - 1, by omega⟩
    have ih' := ih k (at_ - 1) (by omega) (by omega) (by omega) (by omega)
    obtain ⟨y0, m0, d0, o0, e0, f0⟩ := to_ok (n := at_) (by omega) (by omega)
    simp only [period_Roll_1.l0, dn]
    rw [f0 k (by omega)]
    simp only [Option.bind_some, if_true]
    rw [works_any at_ l hm k (by omega)]
    simp only [Option.bind_some]
    rw [show at_ + -1 = at_ - 1 by omega, w64 (n := at_ - 1) (by omega) (by omega)]
    by_cases c : work l at_ = true
    · rw [if_pos c, if_pos c]
      refine ⟨(fun h => nomatch h), fun y m dd o h => ?_⟩
      obtain ⟨rfl, rfl, rfl⟩ := num_inj o0 o (by rw [e0]; exact Option.some.inj h)
      rw [e0]
    · rw [if_neg c, if_neg c]
      exact ih'
/-- The document's. -/
theorem rseek_up (l : List Int) (hm : (l.length : Int) ≤ 9223372036854775807) (d : Nat) : ∀ (k : Nat) (at_ : Int), 1 ≤ at_ → at_ ≤ 3652060 → (3652060 - at_).toNat = d → 2 * d + l.length + 10 ≤ k → lombardref06_seek.l0 k at_ 1 l = some ((up l d at_).getD 0) := by
  induction d with
  | zero =>
    intro k at_ h1 h2 hd hk
    obtain ⟨k, rfl⟩ : ∃ j, k = j + 2 := ⟨k - 2, by omega⟩
    simp only [lombardref06_seek.l0, lombardref06_seek.j1, up]
    rw [if_pos (by omega), if_neg (by rw [decide_eq_true_eq]; omega)]
    rfl
  | succ d ih =>
    intro k at_ h1 h2 hd hk
    obtain ⟨k, rfl⟩ : ∃ j, k = j + 2 := ⟨k - 2, by omega⟩
    have ih' := ih k (at_ + 1) (by omega) (by omega) (by omega) (by omega)
    simp only [lombardref06_seek.l0, lombardref06_seek.j1, up]
    rw [if_pos (by omega), if_pos (by rw [decide_eq_true_eq]; omega), rworks_any at_ l hm k (by omega)]
    simp only [Option.bind_some]
    rw [w64 (n := at_ + 1) (by omega) (by omega)]
    by_cases c : work l at_ = true
    · rw [if_pos c, if_pos c]
      rfl
    · rw [if_neg c, if_neg c]
      exact ih'
theorem rseek_dn (l : List Int) (hm : (l.length : Int) ≤ 9223372036854775807) (d : Nat) : ∀ (k : Nat) (at_ : Int), 0 ≤ at_ → at_ ≤ 3652059 → at_.toNat = d → 2 * d + l.length + 10 ≤ k → lombardref06_seek.l0 k at_ (-1) l = some ((dn l d at_).getD 0) := by
  induction d with
  | zero =>
    intro k at_ h1 h2 hd hk
    obtain ⟨k, rfl⟩ : ∃ j, k = j + 2 := ⟨k - 2, by omega⟩
    simp only [lombardref06_seek.l0, lombardref06_seek.j1, dn]
    rw [if_neg (by omega), if_neg (by decide)]
    rfl
  | succ d ih =>
    intro k at_ h1 h2 hd hk
    obtain ⟨k, rfl⟩ : ∃ j, k = j + 2 := ⟨k - 2, by omega⟩
    have ih' := ih k (at_ - 1) (by omega) (by omega) (by omega) (by omega)
    simp only [lombardref06_seek.l0, lombardref06_seek.j1, dn]
    rw [if_pos (by omega), if_pos (by rw [decide_eq_true_eq]; omega), rworks_any at_ l hm k (by omega)]
    simp only [Option.bind_some]
    rw [show at_ + -1 = at_ - 1 by omega, w64 (n := at_ - 1) (by omega) (by omega)]
    by_cases c : work l at_ = true
    · rw [if_pos c, if_pos c]
      rfl
    · rw [if_neg c, if_neg c]
      exact ih'

theorem next_bd {l : List Int} {n m : Int} (h1 : 1 ≤ n) (h2 : n ≤ 3652059) (h : next l n = some m) : n ≤ m ∧ m ≤ 3652059 ∧ work l m = true ∧ ∀ j, n ≤ j → j < m → work l j = false := by
  obtain ⟨a, b, c, d⟩ := up_some h
  exact ⟨a, by omega, c, d⟩
theorem prev_bd {l : List Int} {n m : Int} (h1 : 1 ≤ n) (h2 : n ≤ 3652059) (h : prev l n = some m) : 1 ≤ m ∧ m ≤ n ∧ work l m = true ∧ ∀ j, m < j → j ≤ n → work l j = false := by
  obtain ⟨a, b, c, d⟩ := dn_some h
  exact ⟨by omega, a, c, d⟩
theorem next_none {l : List Int} {n : Int} (h1 : 1 ≤ n) (h2 : n ≤ 3652059) (h : next l n = none) : ∀ j, n ≤ j → j ≤ 3652059 → work l j = false := fun j a b => up_none h j a (by omega)
theorem prev_none {l : List Int} {n : Int} (h1 : 1 ≤ n) (h2 : n ≤ 3652059) (h : prev l n = none) : ∀ j, 1 ≤ j → j ≤ n → work l j = false := fun j a b => dn_none h j (by omega) b

/-- What the search down answers, but for the date. -/
theorem down_f (n : Int) (l : List Int) (hm : (l.length : Int) ≤ 1000) (h1 : 1 ≤ n) (h2 : n ≤ 3652059) (k : Nat) (hk : 4000000 ≤ k) : ∃ a b c, period_Roll_1.f k (-1) n l = some (a, b, c, (res (prev l n)).1, (res (prev l n)).2) := by
  unfold period_Roll_1.f
  have s := seek_dn n l (by omega) n.toNat k n (by omega) (by omega) rfl (by omega)
  cases hp : prev l n with
  | none => exact ⟨0, 0, 0, s.1 hp⟩
  | some m =>
    obtain ⟨a, b, _⟩ := prev_bd h1 h2 hp
    obtain ⟨y, mo, d, o, rfl⟩ := date_of m a (by omega)
    exact ⟨y, mo, d, s.2 y mo d o hp⟩

/-- In whose place which day is taken. -/
theorem roll_f {y m d : Int} (o : ok y m d) (way : Int) (l : List Int) (hm : (l.length : Int) ≤ 1000) (k : Nat) (hk : 8000000 ≤ k) :
    period_Roll.f k (num y m d) way l = lombardref06_Roll.f k (num y m d) way l ∧
    ((l.length : Int) ≤ 600 → period_Roll.f k (num y m d) 0 l = some (num y m d, 0) ∧ period_Roll.f k (num y m d) 1 l = some (res (next l (num y m d))) ∧ period_Roll.f k (num y m d) 3 l = some (res (prev l (num y m d))) ∧
      (next l (num y m d) = none → period_Roll.f k (num y m d) 2 l = some (res (prev l (num y m d)))) ∧
      (∀ y' m' d', ok y' m' d' → next l (num y m d) = some (num y' m' d') → period_Roll.f k (num y m d) 2 l = some (if y' = y ∧ m' = m then (num y' m' d', 0) else res (prev l (num y m d))))) := by
  obtain ⟨k, rfl⟩ : ∃ j, k = j + 4 := ⟨k - 4, by omega⟩
  have r := num_range o
  have t0 := to_num o (k + 4) (by omega)
  have t1 := DayRef.to_num o (k + 4) (by omega)
  obtain ⟨a0, b0, c0, hdn⟩ := down_f (num y m d) l hm r.1 r.2 (k + 3) (by omega)
  have hup := seek_up (num y m d) l (by omega) (3652060 - num y m d).toNat (k + 3) (num y m d) (by omega) (by omega) rfl (by omega)
  have ru := rseek_up l (by omega) (3652060 - num y m d).toNat (k + 2) (num y m d) (by omega) (by omega) rfl (by omega)
  have rd_ := rseek_dn l (by omega) (num y m d).toNat (k + 2) (num y m d) (by omega) (by omega) rfl (by omega)
  have hw := rworks_any (num y m d) l (by omega) (k + 3) (by omega)
  have hj : ∀ w, period_Roll.j0 (k + 4) w true (num y m d) l y m d = some (0, 2) := by
    intro w
    simp only [period_Roll.j0, if_true]
  have rj : ∀ w, lombardref06_Roll.j0 (k + 4) (num y m d) w l true y m d = some (0, 2) := by
    intro w
    simp only [lombardref06_Roll.j0, if_true]
  -- what the program's way answers, the errors aside
  have p0 : period_Roll.j0 (k + 4) 0 false (num y m d) l y m d = some (num y m d, 0) := by simp [period_Roll.j0]
  have p3 : period_Roll.j0 (k + 4) 3 false (num y m d) l y m d = some (res (prev l (num y m d))) := by
    simp only [period_Roll.j0]
    simp [hdn]
  have p1 : period_Roll.j0 (k + 4) 1 false (num y m d) l y m d = some (res (next l (num y m d))) := by
    simp only [period_Roll.j0, period_Roll_1.f]
    cases hn : next l (num y m d) with
    | none =>
      rw [hup.1 hn]
      simp [res]
    | some q =>
      obtain ⟨a, b, _⟩ := next_bd r.1 r.2 hn
      obtain ⟨y', m', d', o', rfl⟩ := date_of q (by omega) b
      rw [hup.2 y' m' d' o' hn]
      simp [res]
  have p2n : next l (num y m d) = none → period_Roll.j0 (k + 4) 2 false (num y m d) l y m d = some (res (prev l (num y m d))) := by
    intro hn
    simp only [period_Roll.j0, hdn]
    simp only [period_Roll_1.f]
    rw [hup.1 hn]
    simp
  have p2s : ∀ y' m' d', ok y' m' d' → next l (num y m d) = some (num y' m' d') → period_Roll.j0 (k + 4) 2 false (num y m d) l y m d = some (if y' = y ∧ m' = m then (num y' m' d', 0) else res (prev l (num y m d))) := by
    intro y' m' d' o' hn
    simp only [period_Roll.j0, hdn]
    simp only [period_Roll_1.f]
    rw [hup.2 y' m' d' o' hn]
    by_cases e1 : y' = y
    · by_cases e2 : m' = m
      · simp [e1, e2]
      · simp [e1, e2]
    · simp [e1]
  -- the document's way
  have rj3 : ∀ p q : Int, lombardref06_Roll.j3 (k + 1) p q true = some (if p = 0 then (0, 5) else (p, 0)) ∧ lombardref06_Roll.j3 (k + 1) p q false = some (if q = 0 then (0, 5) else (q, 0)) := by
    intro p q
    constructor
    · simp only [lombardref06_Roll.j3, if_true]
      split <;> rfl
    · simp only [lombardref06_Roll.j3, Bool.false_eq_true, if_false]
      split <;> rfl
  have rp : (if (prev l (num y m d)).getD 0 = 0 then ((0, 5) : Int × Int) else ((prev l (num y m d)).getD 0, 0)) = res (prev l (num y m d)) := by
    cases hp : prev l (num y m d) with
    | none => simp [res]
    | some q =>
      obtain ⟨a, _⟩ := prev_bd r.1 r.2 hp
      simp [res]
      omega
  have rn : (if (next l (num y m d)).getD 0 = 0 then ((0, 5) : Int × Int) else ((next l (num y m d)).getD 0, 0)) = res (next l (num y m d)) := by
    cases hp : next l (num y m d) with
    | none => simp [res]
    | some q =>
      obtain ⟨a, _⟩ := next_bd r.1 r.2 hp
      simp [res]
      omega
  have hwn : work l (num y m d) = true → next l (num y m d) = some (num y m d) ∧ prev l (num y m d) = some (num y m d) := by
    intro h
    constructor
    · unfold next
      obtain ⟨z, hz⟩ : ∃ z, (3652060 - num y m d).toNat = z + 1 := ⟨(3652060 - num y m d).toNat - 1, by omega⟩
      rw [hz]
      simp only [up]
      rw [if_pos h]
    · unfold prev
      obtain ⟨z, hz⟩ : ∃ z, (num y m d).toNat = z + 1 := ⟨(num y m d).toNat - 1, by omega⟩
      rw [hz]
      simp only [dn]
      rw [if_pos h]
  have q0 : lombardref06_Roll.j0 (k + 4) (num y m d) 0 l false y m d = some (num y m d, 0) := by
    simp [lombardref06_Roll.j0, lombardref06_Roll.j1]
  have qw : ∀ w, w = 1 ∨ w = 2 ∨ w = 3 → lombardref06_Roll.j0 (k + 4) (num y m d) w l false y m d = period_Roll.j0 (k + 4) w false (num y m d) l y m d := by
    intro w hw3
    by_cases c : work l (num y m d) = true
    · have hh := hwn c
      have e1 : lombardref06_Roll.j0 (k + 4) (num y m d) w l false y m d = some (num y m d, 0) := by
        simp only [lombardref06_Roll.j0, lombardref06_Roll.j1, hw, c]
        have : ¬ w = 0 := by omega
        simp [this]
      rw [e1]
      rcases hw3 with rfl | rfl | rfl
      · rw [p1, hh.1]
        rfl
      · rw [p2s y m d o hh.1]
        simp
      · rw [p3, hh.2]
        rfl
    · have c' : work l (num y m d) = false := Bool.eq_false_iff.mpr c
      have e1 : lombardref06_Roll.j0 (k + 4) (num y m d) w l false y m d = lombardref06_Roll.j2 (k + 2) w ((next l (num y m d)).getD 0) ((prev l (num y m d)).getD 0) (if w = 3 then (prev l (num y m d)).getD 0 else (next l (num y m d)).getD 0) y m d := by
        have : ¬ w = 0 := by omega
        simp only [lombardref06_Roll.j0, lombardref06_Roll.j1, hw, c', Bool.false_eq_true, if_false, this, Option.bind_some, lombardref06_seek.f, ru, rd_, next, prev]
        by_cases w3 : w = 3 <;> simp [w3]
      rw [e1]
      rcases hw3 with rfl | rfl | rfl
      · rw [p1]
        simp only [lombardref06_Roll.j2, show ¬ ((1 : Int) = 3) by decide, show ¬ ((1 : Int) = 2) by decide, if_false]
        rw [← rn]
        split <;> rfl
      · simp only [lombardref06_Roll.j2, show ¬ ((2 : Int) = 3) by decide, if_false, if_true]
        cases hn : next l (num y m d) with
        | none =>
          rw [p2n hn, ← rp]
          simp only [Option.getD_none]
          rw [DayRef.to_no (n := 0) (by omega) (k + 1) (by omega)]
          simp only [Option.bind_some, if_true]
          exact (rj3 _ _).1
        | some q =>
          obtain ⟨a, b, _⟩ := next_bd r.1 r.2 hn
          obtain ⟨y', m', d', o', rfl⟩ := date_of q (by omega) b
          rw [p2s y' m' d' o' hn, ← rp]
          simp only [Option.getD_some]
          rw [DayRef.to_num o' (k + 1) (by omega)]
          simp only [Option.bind_some]
          rw [if_neg (by omega)]
          by_cases e2 : m' = m
          · rw [if_pos e2]
            by_cases e1 : y' = y
            · have hb : (y' != y) = false := by simp [e1]
              rw [hb, (rj3 _ _).2, if_neg (by omega), if_pos ⟨e1, e2⟩]
            · have hb : (y' != y) = true := by simp [e1]
              rw [hb, (rj3 _ _).1, if_neg (c := y' = y ∧ m' = m) (fun h => e1 h.1)]
          · rw [if_neg e2, (rj3 _ _).1, if_neg (c := y' = y ∧ m' = m) (fun h => e2 h.2)]
      · rw [p3]
        simp only [lombardref06_Roll.j2, show ¬ ((3 : Int) = 2) by decide, if_false, if_true]
        rw [← rp]
        split <;> rfl
  have pf : ∀ w, period_Roll.f (k + 4) (num y m d) w l = if w < 0 ∨ w > 3 ∨ (l.length : Int) > 600 then some (0, 2) else period_Roll.j0 (k + 4) w false (num y m d) l y m d := by
    intro w
    unfold period_Roll.f
    rw [t0]
    simp only [Option.bind_some, if_true]
    by_cases c1 : w < 0
    · rw [if_pos c1, if_pos (.inl c1), hj]
    · rw [if_neg c1]
      by_cases c2 : w > 3
      · rw [if_pos c2, if_pos (.inr (.inl c2)), hj]
      · rw [if_neg c2]
        by_cases c3 : (l.length : Int) > 600
        · rw [decide_eq_true c3, if_pos (.inr (.inr c3)), hj]
        · rw [decide_eq_false c3, if_neg (by omega)]
  have qf : ∀ w, lombardref06_Roll.f (k + 4) (num y m d) w l = if w < 0 ∨ w > 3 ∨ (l.length : Int) > 600 then some (0, 2) else lombardref06_Roll.j0 (k + 4) (num y m d) w l false y m d := by
    intro w
    unfold lombardref06_Roll.f
    rw [t1]
    simp only [Option.bind_some, if_true]
    by_cases c1 : w < 0
    · rw [if_pos c1, if_pos (.inl c1), rj]
    · rw [if_neg c1]
      by_cases c2 : w > 3
      · rw [if_pos c2, if_pos (.inr (.inl c2)), rj]
      · rw [if_neg c2]
        by_cases c3 : (l.length : Int) > 600
        · rw [decide_eq_true c3, if_pos (.inr (.inr c3)), rj]
        · rw [decide_eq_false c3, if_neg (by omega)]
  constructor
  · rw [pf, qf]
    split
    · rfl
    · by_cases w0 : way = 0
      · subst w0
        rw [p0, q0]
      · exact (qw way (by omega)).symm
  · intro h6
    refine ⟨?_, ?_, ?_, ?_, ?_⟩
    · rw [pf, if_neg (by omega), p0]
    · rw [pf, if_neg (by omega), p1]
    · rw [pf, if_neg (by omega), p3]
    · intro hn
      rw [pf, if_neg (by omega), p2n hn]
    · intro y' m' d' o' hn
      rw [pf, if_neg (by omega), p2s y' m' d' o' hn]

theorem roll_no {n : Int} (h : n < 1 ∨ 3652059 < n) (way : Int) (l : List Int) (k : Nat) (hk : 1 ≤ k) : period_Roll.f k n way l = some (0, 5) ∧ lombardref06_Roll.f k n way l = some (0, 5) := by
  unfold period_Roll.f lombardref06_Roll.f
  rw [to_no h k hk, DayRef.to_no h k hk]
  simp
end Go.Proofs.Ytdfaedikjfbbjaa.PerRoll
end

section
namespace Go.Proofs.Ytdfaedikjfbbjaa.PerLaws
set_option linter.unusedVariables false
set_option linter.unusedSimpArgs false
open Go.RowKit Go.Proofs.Ytdfaedikjfbbjaa.S Go.Proofs.Ytdfaedikjfbbjaa.XNum Go.Proofs.Ytdfaedikjfbbjaa.Cal Go.Proofs.Ytdfaedikjfbbjaa.DayPure Go.Proofs.Ytdfaedikjfbbjaa.PerPure Go.Proofs.Ytdfaedikjfbbjaa.PerRoll Go.Proofs.YtdfaedikjfbbjaaW.PrintWords Go.Proofs.YtdfaedikjfbbjaaW.PrintLast

theorem on_ok {y m d : Int} (h : ok y m d) (k : Nat) (hk : 20000 ≤ k) : lombardlaw06_on.f k y m d = some (num y m d) := by
  unfold lombardlaw06_on.f
  rw [from_ok h k (by omega)]
  rfl

theorem alive (k : Nat) (hk : 8000000 ≤ k) : lombardlaw06_alive.f k = some true := by
  have o1 : ok 2020 1 31 := by decide
  have o2 : ok 2020 2 29 := by decide
  have o3 : ok 2020 3 2 := by decide
  have n2 : num 2020 2 29 = 737484 := by decide
  have m1 : monthsAll 2020 1 31 1 false = (737484, 0) := by decide
  have m2 : monthsAll 2020 2 29 1 true = (737515, 0) := by decide
  have hnx : next [] 737484 = some 737486 := by
    unfold next
    have e : ((3652060 : Int) - 737484).toNat = 2914573 + 3 := by decide
    have h : ∀ z, PerRoll.up [] (z + 3) 737484 = some 737486 := by
      intro z
      simp [PerRoll.up, work]
    rw [e]
    exact h _
  have hpv : prev [] 737484 = some 737483 := by
    unfold prev
    have e : (737484 : Int).toNat = 737482 + 2 := by decide
    have h : ∀ z, PerRoll.dn [] (z + 2) 737484 = some 737483 := by
      intro z
      simp [PerRoll.dn, work]
    rw [e]
    exact h _
  have rr := (roll_f o2 0 [] (by simp) k hk).2 (by simp)
  have n3 : num 2020 3 2 = 737486 := by decide
  have r2 := rr.2.2.2.2 2020 3 2 o3 (by rw [n2, n3]; exact hnx)
  have r1 := rr.2.1
  rw [n2, hnx] at r1
  rw [n2, hpv] at r2
  unfold lombardlaw06_alive.f
  rw [on_ok o1 k (by omega), on_ok o2 k (by omega)]
  simp only [Option.bind_some]
  rw [months_f o1 1 false k (by omega), months_f o2 1 true k (by omega), m1, m2, n2]
  simp only [Option.bind_some]
  rw [r1, r2]
  simp [res]
end Go.Proofs.Ytdfaedikjfbbjaa.PerLaws
end

section
namespace Go.Proofs.Ytdfaedikjfbbjaa.PerRow
set_option linter.unusedVariables false
set_option linter.unusedSimpArgs false
open Go.RowKit Go.Proofs.Ytdfaedikjfbbjaa.S Go.Proofs.Ytdfaedikjfbbjaa.XNum Go.Proofs.Ytdfaedikjfbbjaa.Cal Go.Proofs.Ytdfaedikjfbbjaa.DayPure Go.Proofs.Ytdfaedikjfbbjaa.PerPure Go.Proofs.YtdfaedikjfbbjaaW.PrintWords Go.Proofs.YtdfaedikjfbbjaaW.PrintLast

theorem row_all (g : Int → Int × Int) (r : Nat) : ∀ (i : Int) (acc : List Int), (∀ j : Nat, j < r → (g (i + j)).2 = 0) → row g r i acc = (acc ++ (List.range r).map (fun j => (g (i + (j : Nat))).1), 0) := by
  induction r with
  | zero => intro i acc _; simp [row]
  | succ r ih =>
    intro i acc h
    have h0 := h 0 (by omega)
    rw [show i + ((0 : Nat) : Int) = i by omega] at h0
    have h1 := ih (i + 1) (acc ++ [(g i).1]) (fun j hj => by
      have := h (j + 1) (by omega)
      rw [show i + ((j + 1 : Nat) : Int) = i + 1 + j by omega] at this
      exact this)
    simp only [row]
    rw [if_pos h0, h1, List.range_succ_eq_map]
    simp only [List.map_cons, List.map_map, List.append_assoc, List.singleton_append]
    congr 3
    · rw [show i + ((0 : Nat) : Int) = i by omega]
    · apply List.map_congr_left
      intro j _
      show (g (i + 1 + (j : Int))).1 = (g (i + ((j + 1 : Nat) : Int))).1
      rw [show i + ((j + 1 : Nat) : Int) = i + 1 + j by omega]
theorem row_ok (g : Int → Int × Int) (r : Nat) : ∀ (i : Int) (acc : List Int), (row g r i acc).2 = 0 → ∀ j : Nat, j < r → (g (i + j)).2 = 0 := by
  induction r with
  | zero => intro i acc _ j hj; omega
  | succ r ih =>
    intro i acc h j hj
    simp only [row] at h
    by_cases c : (g i).2 = 0
    · rw [if_pos c] at h
      cases j with
      | zero => rw [show i + ((0 : Nat) : Int) = i by omega]; exact c
      | succ j =>
        have := ih (i + 1) _ h j (by omega)
        rw [show i + ((j + 1 : Nat) : Int) = i + 1 + j by omega]
        exact this
    · rw [if_neg c] at h
      exact absurd h c
theorem row_err (g : Int → Int × Int) (r : Nat) : ∀ (i : Int) (acc : List Int), (row g r i acc).2 ≠ 0 → (row g r i acc).1 = [] := by
  induction r with
  | zero => intro i acc h; exact absurd rfl h
  | succ r ih =>
    intro i acc h
    simp only [row] at h ⊢
    by_cases c : (g i).2 = 0
    · rw [if_pos c] at h ⊢
      exact ih _ _ h
    · rw [if_neg c]
theorem rowOf_err (n step times : Int) (e : Bool) (h : (rowOf n step times e).2 ≠ 0) : (rowOf n step times e).1 = [] := by
  unfold rowOf at h ⊢
  split
  · rename_i c
    rw [if_pos c] at h
    exact row_err _ _ _ _ h
  · rfl

/-- A row's j-th day. -/
noncomputable def nth (n step : Int) (e : Bool) (j : Nat) : Int × Int := mon n ((1 + (j : Int)) * step) e
theorem rowOf_all (n step times : Int) (e : Bool) (h1 : 1 ≤ step) (h2 : step ≤ 12) (h3 : 0 ≤ times) (h4 : times ≤ 600) (h : ∀ j : Nat, (j : Int) < times → (nth n step e j).2 = 0) :
    rowOf n step times e = ((List.range times.toNat).map (fun j => (nth n step e j).1), 0) := by
  unfold rowOf
  rw [if_pos ⟨h1, h2, h3, h4⟩, row_all _ _ _ _ (fun j hj => h j (by omega)), List.nil_append]
  rfl
theorem rowOf_ok (n step times : Int) (e : Bool) (h : (rowOf n step times e).2 = 0) : 1 ≤ step ∧ step ≤ 12 ∧ 0 ≤ times ∧ times ≤ 600 ∧ ∀ j : Nat, (j : Int) < times → (nth n step e j).2 = 0 := by
  unfold rowOf at h
  by_cases c : 1 ≤ step ∧ step ≤ 12 ∧ 0 ≤ times ∧ times ≤ 600
  · rw [if_pos c] at h
    exact ⟨c.1, c.2.1, c.2.2.1, c.2.2.2, fun j hj => row_ok _ _ _ _ h j (by omega)⟩
  · rw [if_neg c] at h
    exact absurd h (by decide)

/-- Months on, where there is such a day. -/
theorem monthsAll_ok {y m d : Int} (h : ok y m d) (x : Int) (e : Bool) (h0 : (monthsAll y m d x e).2 = 0) :
    ∃ y' m' d', ok y' m' d' ∧ 12 * y' + m' - 1 = 12 * y + m - 1 + x ∧ (monthsAll y m d x e).1 = num y' m' d' ∧ d' = (if (e = true ∧ d = dim y m) ∨ d > dim y' m' then dim y' m' else d) := by
  unfold monthsAll at h0 ⊢
  by_cases c : x < -12000 ∨ x > 12000
  · rw [if_pos c] at h0
    exact absurd h0 (by decide)
  rw [if_neg c] at h0 ⊢
  unfold monthsOf at h0 ⊢
  dsimp only at h0 ⊢
  generalize hd : (if (e = true ∧ d = dim y m) ∨ d > last ((12 * y + m - 1 + x) / 12) ((12 * y + m - 1 + x) % 12 + 1) then last ((12 * y + m - 1 + x) / 12) ((12 * y + m - 1 + x) % 12 + 1) else d) = d' at h0 ⊢
  by_cases o : ok ((12 * y + m - 1 + x) / 12) ((12 * y + m - 1 + x) % 12 + 1) d'
  · rw [if_pos o]
    have hl : last ((12 * y + m - 1 + x) / 12) ((12 * y + m - 1 + x) % 12 + 1) = dim ((12 * y + m - 1 + x) / 12) ((12 * y + m - 1 + x) % 12 + 1) := by
      unfold last
      rw [if_pos ⟨o.1, o.2.1, o.2.2.1, o.2.2.2.1⟩]
    rw [hl] at hd
    exact ⟨_, _, d', o, by omega, rfl, hd.symm⟩
  · rw [if_neg o] at h0
    exact absurd h0 (by decide)
/-- .. and there is one, well ahead of the last year. -/
theorem monthsAll_in {y m d : Int} (h : ok y m d) (x : Int) (e : Bool) (hx : 0 ≤ x) (hx2 : x ≤ 7300) (hy : y ≤ 9000) : (monthsAll y m d x e).2 = 0 := by
  obtain ⟨a, b, c, f, g, i⟩ := h
  have hb := dim_bd ((12 * y + m - 1 + x) / 12) ((12 * y + m - 1 + x) % 12 + 1)
  have hl : last ((12 * y + m - 1 + x) / 12) ((12 * y + m - 1 + x) % 12 + 1) = dim ((12 * y + m - 1 + x) / 12) ((12 * y + m - 1 + x) % 12 + 1) := by
    unfold last
    rw [if_pos (by omega)]
  unfold monthsAll monthsOf
  rw [if_neg (by omega)]
  dsimp only
  rw [hl]
  rw [if_pos]
  refine ⟨by omega, by omega, by omega, by omega, ?_, ?_⟩
  · split <;> omega
  · split <;> omega

theorem nth_num {y m d : Int} (h : ok y m d) (step : Int) (e : Bool) (j : Nat) : nth (num y m d) step e j = monthsAll y m d ((1 + (j : Int)) * step) e := mon_num h _ _
theorem nth_some {n step : Int} {e : Bool} {j : Nat} (h : (nth n step e j).2 = 0) : 1 ≤ n ∧ n ≤ 3652059 := by
  by_cases c : 1 ≤ n ∧ n ≤ 3652059
  · exact c
  · unfold nth at h
    rw [mon_no (by omega)] at h
    exact absurd h (by decide)
theorem rd_range (f : Nat → Int) (r : Nat) (i : Int) (h0 : 0 ≤ i) (h1 : i < r) : rd ((List.range r).map f) i = f i.toNat := by
  unfold rd
  have hi : i.toNat < ((List.range r).map f).length := by simp; omega
  rw [List.getD_eq_getElem?_getD, List.getElem?_eq_getElem hi]
  simp
end Go.Proofs.Ytdfaedikjfbbjaa.PerRow
end

section
namespace Go.Proofs.Ytdfaedikjfbbjaa.Pure
set_option linter.unusedVariables false
set_option linter.unusedSimpArgs false
open Go.RowKit Go.Proofs.Ytdfaedikjfbbjaa.S Go.Proofs.Ytdfaedikjfbbjaa.XNum Go.Proofs.Ytdfaedikjfbbjaa.Cal Go.Proofs.Ytdfaedikjfbbjaa.DayPure Go.Proofs.Ytdfaedikjfbbjaa.PerPure Go.Proofs.Ytdfaedikjfbbjaa.PerRow Go.Proofs.YtdfaedikjfbbjaaW.PrintWords Go.Proofs.YtdfaedikjfbbjaaW.PrintLast

theorem rises_end (fewer n months step times : Int) (e : Bool) (hf : 0 ≤ fewer) (hf2 : fewer ≤ 255) (h1 : 1 ≤ step) (h2 : step ≤ 12) (h3 : 0 ≤ times) (h4 : times ≤ 600) (h : ∀ j : Nat, (j : Int) < times → (nth n step e j).2 = 0) (last y m d : Int) (k : Nat) (hk : 70000 ≤ k) :
    lombardlaw06_PeriodRises.l0 (k + 1) fewer ((List.range times.toNat).map (fun j => (nth n step e j).1)) last ((List.range times.toNat).map (fun j => (nth n step e j).1)) times times n months step times e y m d = some true := by
  have hlen : (((List.range times.toNat).map (fun j => (nth n step e j).1)).length : Int) = times := by
    simp
    omega
  simp only [lombardlaw06_PeriodRises.l0]
  rw [if_neg (by omega), hlen, w64 (n := times + 1) (by omega) (by omega), if_neg (by omega), w64 (n := fewer) (by omega) (by omega), tm_nn (by omega)]
  have hq : fewer % (times + 1) < times + 1 := Int.emod_lt_of_pos _ (by omega)
  have hq0 : 0 ≤ fewer % (times + 1) := Int.emod_nonneg _ (by omega)
  rw [dates_any n step _ e k (by omega), rowOf_all n step (fewer % (times + 1)) e h1 h2 hq0 (by omega) (fun j hj => h j (by omega))]
  simp only [Option.bind_some, if_true]
  rw [if_pos hq0, if_pos (by omega)]
  have ht : ((List.range times.toNat).map (fun j => (nth n step e j).1)).take (fewer % (times + 1)).toNat = (List.range (fewer % (times + 1)).toNat).map (fun j => (nth n step e j).1) := by
    rw [← List.map_take, List.take_range, Nat.min_eq_left (by omega)]
  rw [ht, ints_any _ _ (by simp; omega) k (by simp; omega)]
  simp

theorem rises_l0 (fewer : Int) {y m d : Int} (o : ok y m d) (months step times : Int) (e : Bool) (hf : 0 ≤ fewer) (hf2 : fewer ≤ 255) (h1 : 1 ≤ step) (h2 : step ≤ 12) (h3 : 0 ≤ times) (h4 : times ≤ 600) (h : ∀ j : Nat, (j : Int) < times → (nth (num y m d) step e j).2 = 0) (r : Nat) :
    ∀ (k : Nat) (i lastv : Int), 0 ≤ i → i ≤ times → (times - i).toNat = r → r + 70001 ≤ k →
    (∃ yl ml dl, ok yl ml dl ∧ num yl ml dl = lastv ∧ 12 * yl + ml - 1 = 12 * y + m - 1 + i * step) →
    lombardlaw06_PeriodRises.l0 k fewer ((List.range times.toNat).map (fun j => (nth (num y m d) step e j).1)) lastv ((List.range times.toNat).map (fun j => (nth (num y m d) step e j).1)) times i (num y m d) months step times e y m d = some true := by
  have hlen : (((List.range times.toNat).map (fun j => (nth (num y m d) step e j).1)).length : Int) = times := by
    simp
    omega
  induction r with
  | zero =>
    intro k i lastv hi hi2 hr hk _
    obtain ⟨k, rfl⟩ : ∃ j, k = j + 1 := ⟨k - 1, by omega⟩
    have : i = times := by omega
    subst this
    exact rises_end fewer (num y m d) months step i e hf hf2 h1 h2 h3 h4 h lastv y m d k (by omega)
  | succ r ih =>
    intro k i lastv hi hi2 hr hk hl
    obtain ⟨k, rfl⟩ : ∃ j, k = j + 1 := ⟨k - 1, by omega⟩
    obtain ⟨yl, ml, dl, ol, el, ml2⟩ := hl
    have hj := h i.toNat (by omega)
    rw [nth_num o] at hj
    rw [show (1 : Int) + (i.toNat : Int) = i + 1 by omega] at hj
    obtain ⟨y', m', d', o', e', f', g'⟩ := monthsAll_ok o _ e hj
    have hrd : rd ((List.range times.toNat).map (fun j => (nth (num y m d) step e j).1)) i = num y' m' d' := by
      rw [rd_range _ _ i hi (by omega), nth_num o, show (1 : Int) + (i.toNat : Int) = i + 1 by omega]
      exact f'
    have ek : (i + 1) * step = i * step + step := by rw [Int.add_mul]; omega
    have b0 : 0 ≤ i * step := Int.mul_nonneg hi (by omega)
    have b1 : (i + 1) * step ≤ 601 * 12 := Int.mul_le_mul (by omega) h2 (by omega) (by omega)
    have hlt : lastv < num y' m' d' := by
      rw [← el, num_lt_iff ol o']
      obtain ⟨_, _, p1, p2, _⟩ := ol
      obtain ⟨_, _, q1, q2, _⟩ := o'
      by_cases c : yl < y'
      · exact .inl c
      · right
        exact ⟨by omega, .inl (by omega)⟩
    have oo := o
    obtain ⟨a1, a2, a3, a4, a5, a6⟩ := oo
    have oo' := o'
    obtain ⟨c1, c2, c3, c4, c5, c6⟩ := oo'
    have step' := ih k (i + 1) (num y' m' d') (by omega) (by omega) (by omega) (by omega) ⟨y', m', d', o', rfl, e'⟩
    simp only [lombardlaw06_PeriodRises.l0]
    rw [if_pos (by omega), if_pos hi, if_pos (by omega), hrd, to_num o' k (by omega)]
    simp only [Option.bind_some, if_true]
    rw [if_neg (by omega), w64 (n := y' - y) (by omega) (by omega), w64 (n := (y' - y) * 12) (by omega) (by omega), w64 (n := (y' - y) * 12 + m') (by omega) (by omega), w64 (n := (y' - y) * 12 + m' - m) (by omega) (by omega), w64 (n := i + 1) (by omega) (by omega), w64 (n := (i + 1) * step) (by omega) (by omega), if_pos (by omega)]
    cases e with
    | true =>
      split
      · rw [if_pos rfl]
        exact step'
      · exact step'
    | false =>
      have hb := dim_bd y' m'
      have hm : ¬ d' > mx d 28 := by
        rw [g']
        unfold mx
        split
        · split
          · rename_i hc _
            rcases hc with ⟨h, _⟩ | h
            · exact absurd h (by decide)
            · omega
          · rename_i hc _
            rcases hc with ⟨h, _⟩ | h
            · exact absurd h (by decide)
            · omega
        · split <;> omega
      rw [if_neg hm]
      exact step'

theorem PeriodRises : lombardlaw06_PeriodRises.Pure := by
  intro n months step times e fewer _ _ _ _ hf
  have hf := wfu8.1 hf
  obtain ⟨k, hk0⟩ : ∃ k : Nat, k = 9000000 := ⟨_, rfl⟩
  refine ⟨k, ?_⟩
  unfold lombardlaw06_PeriodRises.f
  rw [PerLaws.alive k (by omega)]
  simp only [Option.bind_some, if_true, dates_any n step times e k (by omega)]
  by_cases c : (rowOf n step times e).2 = 0
  · obtain ⟨h1, h2, h3, h4, h⟩ := rowOf_ok n step times e c
    rw [if_pos c, rowOf_all n step times e h1 h2 h3 h4 h]
    have hlen : (((List.range times.toNat).map (fun j => (nth n step e j).1)).length : Int) = times := by
      simp
      omega
    dsimp only
    rw [hlen]
    by_cases cn : 1 ≤ n ∧ n ≤ 3652059
    · obtain ⟨y, m, d, o, rfl⟩ := date_of n cn.1 cn.2
      rw [to_num o k (by omega)]
      simp only [Option.bind_some]
      exact rises_l0 fewer o months step times e hf.1 hf.2 h1 h2 h3 h4 h times.toNat k 0 (num y m d) (by omega) (by omega) (by omega) (by omega) ⟨y, m, d, o, rfl, by omega⟩
    · have ht : times = 0 := by
        by_cases c0 : times = 0
        · exact c0
        · exact absurd (nth_some (h 0 (by omega))) cn
      rw [to_no (by omega) k (by omega)]
      simp only [Option.bind_some]
      obtain ⟨K, hk⟩ : ∃ K : Nat, k = K + 1 := ⟨k - 1, by omega⟩
      have hx := rises_end fewer n months step times e hf.1 hf.2 h1 h2 h3 h4 h n 0 0 0 K (by omega)
      rw [hk]
      rw [ht] at hx ⊢
      exact hx
  · rw [if_neg c, rowOf_err n step times e c]
    simp
end Go.Proofs.Ytdfaedikjfbbjaa.Pure
end

section
namespace Go.Proofs.Ytdfaedikjfbbjaa.XOpen
set_option linter.unusedVariables false
set_option linter.unusedSimpArgs false
open Go.ChangeShapes Go.WideShapes Go.RowKit Go.Proofs.YtdfaedikjfbbjaaW.PrintWords
section
variable {H : Type} {enc : TypeId × Value → H} {P : Program} {w : World} {base : Nat} {spare : Nat → Bool} {held : Bool}

/-- Whatever reads as data of type t holds a value of the kind d, and it is good. -/
def Opens {α : Type} (enc : TypeId × Value → H) (P : Program) (w : World) (base : Nat) (spare : Nat → Bool) (held : Bool) (t : TypeId) (d : Kd α) (g : α → Prop) : Prop :=
  ∀ fuel cs x, DataW.trod enc P w base spare held fuel t cs = some x → ∃ a, d.K w a cs ∧ g a

theorem opens_int {t : TypeId} {k : IntKind} (ht : P.underlying t = some (.int k)) : Opens enc P w base spare held t (Kd.int k) (fun a => (Lit.int k a).wf = true) := by
  intro fuel cs x h
  obtain ⟨n, rfl, _, hw⟩ := DataW.trod_int ht h
  exact ⟨n, rfl, hw⟩

theorem opens_bool {t : TypeId} (ht : P.underlying t = some .bool) : Opens enc P w base spare held t Kd.bool (fun _ => True) := by
  intro fuel cs x h
  obtain ⟨n, rfl, _⟩ := DataW.trod_bool ht h
  exact ⟨n, rfl, trivial⟩

theorem opens_string {t : TypeId} (ht : P.underlying t = some .string) : Opens enc P w base spare held t Kd.string (fun s => s.size ≤ maxLen) := by
  intro fuel cs x h
  obtain ⟨s, rfl, _, hs⟩ := DataW.trod_string ht h
  exact ⟨s, rfl, hs⟩

theorem choose_list {α : Type} (n : Nat) (p : Nat → α → Prop) (h : ∀ i, i < n → ∃ a, p i a) : ∃ l : List α, l.length = n ∧ ∀ i a, l[i]? = some a → p i a := by
  induction n with
  | zero => exact ⟨[], rfl, fun i a hi => by simp at hi⟩
  | succ n ih =>
    obtain ⟨l, hl, hp⟩ := ih (fun i hi => h i (by omega))
    obtain ⟨a, ha⟩ := h n (by omega)
    refine ⟨l ++ [a], by simp [hl], fun i b hi => ?_⟩
    by_cases hin : i < n
    · rw [List.getElem?_append_left (by omega)] at hi
      exact hp i b hi
    · by_cases e : i = n
      · subst e
        rw [List.getElem?_append_right (by omega), hl] at hi
        simp at hi
        subst hi
        exact ha
      · rw [List.getElem?_append_right (by omega), hl, List.getElem?_eq_none (by simp; omega)] at hi
        cases hi

theorem opens_slice {α : Type} {t e : TypeId} {d : Kd α} {g : α → Prop} (ht : P.underlying t = some (.slice e)) (hc : P.cellsOf e = d.sz) (he : Opens enc P w base spare held e d g) :
    Opens enc P w base spare held t (Kd.slice e d) (fun l => l.length ≤ maxLen ∧ ∀ a ∈ l, g a) := by
  intro fuel cs x h
  rcases DataW.trod_slice ht h with ⟨rfl, _⟩ | ⟨a, len, cap, elems, rest, n, _, rfl, _, _, hl, hm, hlen, hel, _⟩
  · exact ⟨[], ⟨none, 0, rfl, Nat.le_refl _, rfl, Nat.zero_le _, fun h0 => absurd h0 (Nat.lt_irrefl 0)⟩, Nat.zero_le _, fun a ha => absurd ha List.not_mem_nil⟩
  · have hp : ∀ i, i < len → ∃ q : α, (∃ c : List Value, c.length = d.sz ∧ d.K w q c ∧ ∀ j u, c[j]? = some u → w.cell? (a.add (i * d.sz + j)) = some u) ∧ g q := by
      intro i hi
      have h1 := hel i hi
      have hi' : i < elems.length := by omega
      rw [List.getElem?_eq_getElem hi', Option.bind_eq_some_iff] at h1
      obtain ⟨c, hcs, hy⟩ := h1
      obtain ⟨q, hk, hg⟩ := he _ _ _ hy
      obtain ⟨_, hcl, hat⟩ := World.cells?_some hcs
      refine ⟨q, ⟨c, hcl.trans hc, hk, fun j u hu => ?_⟩, hg⟩
      have hj : j < P.cellsOf e := by
        have := (List.getElem?_eq_some_iff.1 hu).1
        omega
      have h2 := hat j hj
      rw [hu, hc] at h2
      have h3 : (a.add (i * d.sz)).add j = a.add (i * d.sz + j) := by
        exact Go.Deep.add_add a (i * d.sz) j
      rw [h3] at h2
      exact h2
    obtain ⟨l, hll, hall⟩ := choose_list len _ hp
    subst hll
    refine ⟨l, ⟨some a, cap, rfl, hl, ?_⟩, Nat.le_trans hl hm, fun q hq => ?_⟩
    · refine ⟨rfl, ?_, fun _ => ⟨a, rfl, fun j p hj => (hall j p hj).1⟩⟩
      have := Nat.le_trans hl hm
      unfold maxLen at this
      exact this
    · obtain ⟨i, hi⟩ := List.getElem?_of_mem hq
      exact (hall i q hi).2

/-- A field: its cells are those that stand at its place. -/
theorem field_of {α : Type} {t : TypeId} {fs : Array Field} {d : Kd α} {g : α → Prop} {fuel : Nat} {cs : List Value} {x : DataW H × List MemPlace} (ht : P.underlying t = some (.struct fs)) (h : DataW.trod enc P w base spare held fuel t cs = some x)
    (i : Nat) (f : Field) (hf : fs[i]? = some f) (ho : Opens enc P w base spare held f.type d g) (off sz : Nat) (h0 : f.offset = off) (h1 : P.cellsOf f.type = sz) : ∃ a, d.K w a ((cs.drop off).take sz) ∧ g a := by
  subst h0 h1
  obtain ⟨xs, n, _, _, _, hl, hat⟩ := DataW.trod_struct ht h
  have hi : i < xs.length := by
    rw [hl]
    exact (Array.getElem?_eq_some_iff.1 hf).1
  have h2 := hat i f hf
  rw [List.getElem?_eq_getElem hi] at h2
  exact ho _ _ _ h2

theorem cells_len {t : TypeId} {fs : Array Field} {fuel : Nat} {cs : List Value} {x : DataW H × List MemPlace} (ht : P.underlying t = some (.struct fs)) (h : DataW.trod enc P w base spare held fuel t cs = some x) : cs.length = P.cellsOf t := by
  obtain ⟨xs, n, _, _, hl, _⟩ := DataW.trod_struct ht h
  exact hl

theorem K_pair {α β : Type} {a : Kd α} {b : Kd β} {x : α} {y : β} {cs : List Value} (n : Nat) (h0 : a.K w x (cs.take n)) (h1 : b.K w y (cs.drop n)) : (Kd.pair a b).K w (x, y) cs :=
  ⟨cs.take n, cs.drop n, (List.take_append_drop n cs).symm, h0, h1⟩

theorem drop_drop' (cs : List Value) (m n : Nat) : (cs.drop m).drop n = cs.drop (m + n) := List.drop_drop

theorem K_pair' {α β : Type} {a : Kd α} {b : Kd β} {x : α} {y : β} {cs : List Value} (off n : Nat) (h0 : a.K w x ((cs.drop off).take n)) (h1 : b.K w y (cs.drop (off + n))) : (Kd.pair a b).K w (x, y) (cs.drop off) :=
  K_pair n h0 (by rw [drop_drop']; exact h1)

theorem K_last {α : Type} {a : Kd α} {x : α} {cs : List Value} (off n : Nat) (h0 : a.K w x ((cs.drop off).take n)) (hl : cs.length ≤ off + n) : a.K w x (cs.drop off) := by
  rw [List.take_of_length_le (by rw [List.length_drop]; omega)] at h0
  exact h0

theorem K_all {α : Type} {a : Kd α} {x : α} {cs : List Value} (h0 : a.K w x (cs.drop 0)) : a.K w x cs := h0

theorem okWide_agg {r : Reach} {t : TypeId} {fs : Array Field} {v : Value} (ht : P.underlying t = some (.struct fs)) (h : Value.okWide P w r base t v) : ∃ cs, v = .agg cs := by
  obtain ⟨cs, h, _⟩ := okWide_struct ht h
  exact ⟨cs, h⟩

theorem agg_of {cs : Array Value} {l : List Value} (h : (Value.agg cs).cells.toList = l) : cs = l.toArray := by
  subst h
  simp [Value.cells]

theorem slice_of {a : Option Addr} {len cap : Nat} {A : Option Addr} {n c : Nat} (h : (Value.slice a len cap).cells.toList = [.slice A n c]) : a = A ∧ len = n ∧ cap = c := by
  simpa [Value.cells] using h
end
end Go.Proofs.Ytdfaedikjfbbjaa.XOpen
end

section
namespace Go.Proofs.Ytdfaedikjfbbjaa.periodRises
open Go.ChangeShapes Go.WideShapes Go.ChangeAt Go.RowKit Go.Proofs.Ytdfaedikjfbbjaa.S Go.Proofs.YtdfaedikjfbbjaaW.PrintWords Go.Proofs.Ytdfaedikjfbbjaa.XOpen
open Go.ChangeMaps (open_string shut_string)
set_option linter.unusedVariables false
theorem own : ownKnob Try.prog.godebug = none := by kernel_rfl
theorem laidOut : laidOutB Try.prog = true := by kernel_rfl
theorem opens_S48 {H : Type} {enc : TypeId × Value → H} {w : World} {base : Nat} {spare : Nat → Bool} {held : Bool} : Opens enc Try.prog w base spare held 48 k48 (fun a => ((Lit.int .i64 a.f0).wf = true ∧ (Lit.int .i64 a.f1).wf = true ∧ (Lit.int .i64 a.f2).wf = true ∧ (Lit.int .i64 a.f3).wf = true ∧ True)) := by
  intro fuel cs x h
  have hl : cs.length = 5 := (cells_len Try.underlying48 h).trans (by kernel_rfl)
  obtain ⟨a0, h0, g0⟩ := field_of Try.underlying48 h 0 _ rfl (opens_int Try.underlying3) 0 1 rfl (by kernel_rfl)
  obtain ⟨a1, h1, g1⟩ := field_of Try.underlying48 h 1 _ rfl (opens_int Try.underlying3) 1 1 rfl (by kernel_rfl)
  obtain ⟨a2, h2, g2⟩ := field_of Try.underlying48 h 2 _ rfl (opens_int Try.underlying3) 2 1 rfl (by kernel_rfl)
  obtain ⟨a3, h3, g3⟩ := field_of Try.underlying48 h 3 _ rfl (opens_int Try.underlying3) 3 1 rfl (by kernel_rfl)
  obtain ⟨a4, h4, g4⟩ := field_of Try.underlying48 h 4 _ rfl (opens_bool Try.underlying4) 4 1 rfl (by kernel_rfl)
  refine ⟨⟨a0, a1, a2, a3, a4⟩, ?_, ⟨g0, g1, g2, g3, g4⟩⟩
  exact K_all (K_pair' 0 1 h0 (K_pair' 1 1 h1 (K_pair' 2 1 h2 (K_pair' 3 1 h3 (K_last 4 1 h4 (by omega))))))
set_option maxRecDepth 100000 in
theorem lifted (os : Os) (started : os.Started) (H : Type) (enc : TypeId × Value → H) :
    ReturnsInHanded {} Try.checked os 12 .any (Rows.periodRisesSpec.pre6 enc Try.prog Try.f12 Rows.periodRisesRow.domain false) (Rows.periodRisesSpec.post enc Try.prog Try.f12 false true false false) := by
  refine returnsInHanded_of_change_sized (C := Try.checked) own started (by kernel_rfl) Try.func12
    (ChangeSpec.witness6 (enc := enc) (C := Try.checked) false ⟨#[], #[.agg #[.int .i64 0, .int .i64 0, .int .i64 0, .int .i64 0, .bool false], .int .u8 0], []⟩ 8 (by kernel_rfl) (by kernel_rfl) (by kernel_rfl) (by kernel_rfl)) ?_
  intro W base args ds gs before hval0 hW hcnd hsz0 _
  have hval : ∀ (j : Nat) t v, Try.f12.params[j]? = some t → args[j]? = some v → Value.okWide Try.prog W .any base t v := hval0
  have hW' := hW
  obtain ⟨p, q, hA0, hV, rfl, hfz, hnd⟩ := hW
  have hA : DataW.TrodAll enc Try.prog W 0 (fun _ => true) true Try.f12.params.toList args.toList ds p := hA0
  rw [Try.params12] at hA hval
  obtain ⟨v0, vs0, d0, ds0, p0, q0, hargs, rfl, rfl, h0, r0⟩ := trodAll_cons hA
  obtain ⟨v1, vs1, d1, ds1, p1, q1, rfl, rfl, rfl, h1, r1⟩ := trodAll_cons r0
  obtain ⟨rfl, rfl, rfl⟩ := trodAll_nil r1
  obtain rfl : args = #[v0, v1] := by cases args; simp_all
  obtain ⟨rfl, rfl⟩ := trodVars_none hV
  clear hA0 hsz0
  have k0 := h0
  have lt0 : ∀ x ∈ p0, x.block < W.heap.size := by obtain ⟨m, hm⟩ := k0; exact DataW.trod_lt m _ _ _ hm
  obtain ⟨u0, hf0⟩ := h0
  obtain ⟨s0, hk0, hg0⟩ := opens_S48 _ _ _ hf0
  have he0 := k48_open hk0
  obtain ⟨b0, rfl⟩ := okWide_agg Try.underlying48 (hval 0 48 v0 rfl rfl)
  obtain rfl := agg_of he0
  obtain ⟨a1, rfl, rfl, rfl, w1⟩ := open_int Try.underlying5 (hval 1 5 v1 rfl rfl) h1
  refine (S.lombardlaw06_PeriodRises.walk Pure.PeriodRises s0.f0 s0.f1 s0.f2 s0.f3 s0.f4 a1 W  hg0.1 hg0.2.1 hg0.2.2.1 hg0.2.2.2.1 w1).mono fun e W' ⟨he, bel⟩ => ?_
  subst he
  exact ⟨_, rfl, _, _, _, [], _, [], hW', trodAll_mk1 (shut_bool Try.underlying4 _), (trodAll_cons_mk (Below.trod laidOut (by kernel_rfl) (of_decide_eq_true (by kernel_rfl)) k0 bel lt0) (trodAll_cons_mk (shut_int Try.underlying5 w1) trodAll_mk0)), rfl, bel.frame _, fun h => by cases h⟩
theorem over : Rows.periodRisesRow.holds Try.pinned (OpenSpec.ofChange Rows.periodRisesSpec) :=
  OpenClaim.holds_of_wide 12 Try.f12 rfl rfl rfl rfl rfl rfl rfl ⟨rfl, rfl, rfl, rfl, rfl⟩ rfl rfl rfl rfl rfl (by kernel_rfl) Try.func12 (by kernel_rfl)
    (of_decide_eq_true (by kernel_rfl)) (by unfold Func.isWrapper; first | (rw [if_pos (by decide +kernel)]; kernel_rfl) | (rw [if_neg (by decide +kernel)]; exact ⟨rfl, rfl⟩))
    (fun os started H enc _ => lifted os started H enc)
theorem proved : Rows.PeriodRisesSaid := over
#print axioms proved
end Go.Proofs.Ytdfaedikjfbbjaa.periodRises
namespace Go.Proofs.Ytdfaedikjfbbjaa
/-- The row, under a short name, for the claim. -/
theorem periodRises_holds : Rows.PeriodRisesSaid := periodRises.proved
end Go.Proofs.Ytdfaedikjfbbjaa
end
