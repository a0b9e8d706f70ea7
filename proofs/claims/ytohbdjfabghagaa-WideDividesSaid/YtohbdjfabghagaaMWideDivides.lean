/- The statement WideDividesSaid: for every input the law returns true, and each argument reads afterwards as it read before. Conditions: none. -/
import Derived.Test.YtohbdjfabghagaaXWide
import Derived.Test.YtohbdjfabghagaaSxLombardlaw02Alive
import Derived.Test.YtohbdjfabghagaaSxLombardref02MulDiv
import Derived.Test.YtohbdjfabghagaaSxLombardref02Divz
import Derived.Test.YtohbdjfabghagaaSxLombardlaw02WideDivides
import Derived.Test.YtohbdjfabghagaaWWords
import Derived.ChangeArms
import Derived.DataReads
import Derived.WideShapes
import Derived.Deep.Slices
import Derived.Test.YtohbdjfabghagaaRows
import Derived.WalkKit
import Derived.ProofKit
import Derived.OpenShut
import Derived.ShutString
import Derived.ChangeOld
import Derived.Below
import Derived.SizedLaws
import Derived.Carry
section
namespace Go.Proofs.Ytohbdjfabghagaa.WideAlive
set_option linter.unusedVariables false
set_option linter.unusedSimpArgs false
open Go.RowKit Go.Proofs.Ytohbdjfabghagaa.S Go.Proofs.Ytohbdjfabghagaa.XNum Go.Proofs.Ytohbdjfabghagaa.XBits Go.Proofs.Ytohbdjfabghagaa.XWide Go.Proofs.Ytohbdjfabghagaa.Rnd Go.Proofs.YtohbdjfabghagaaW.PrintWords

theorem alive {k : Nat} (hk : 30 ≤ k) : lombardlaw02_alive.f k = some true := by
  unfold lombardlaw02_alive.f
  rw [mulDiv (by constructor <;> omega) (by constructor <;> omega) (by constructor <;> omega) hk, mulDiv (by constructor <;> omega) (by constructor <;> omega) (by constructor <;> omega) hk, mulDiv (by constructor <;> omega) (by constructor <;> omega) (by constructor <;> omega) hk,
    mulDiv (by constructor <;> omega) (by constructor <;> omega) (by constructor <;> omega) hk, mulDiv (by constructor <;> omega) (by constructor <;> omega) (by constructor <;> omega) hk]
  decide

/-- the quotient is a word, or it is too great -/
theorem mdiv_ok {A b way : Int} (hw : way = 0 ∨ way = 1) (hb : b ≠ 0) : mdiv A b way = if -9223372036854775808 ≤ rnd A b way ∧ rnd A b way ≤ 9223372036854775807 then (rnd A b way, 0) else (0, 3) := by
  unfold mdiv
  rw [if_neg (by omega), if_neg hb]
theorem mdiv_two {A b way : Int} (hw : way = 0 ∨ way = 1) (hb : b ≠ 0) : (mdiv A b way = (rnd A b way, 0) ∧ I64 (rnd A b way)) ∨ mdiv A b way = (0, 3) := by
  rw [mdiv_ok hw hb]
  split
  · exact .inl ⟨rfl, by assumption⟩
  · exact .inr rfl

theorem rnd_f {A b : Int} (hb : 0 < b) : rnd A b 0 = A / b := by
  unfold rnd
  rw [if_pos rfl, if_neg (c := b < 0) (by omega)]
theorem rnd_n {A b : Int} (hb : 0 < b) : rnd A b 1 = near A b := by
  unfold rnd
  rw [if_neg (c := (1 : Int) = 0) (by omega), if_neg (c := b < 0) (by omega)]
theorem rnd_f' {A b : Int} (hb : b < 0) : rnd A b 0 = (-A) / (-b) := by
  unfold rnd
  rw [if_pos rfl, if_pos hb]
theorem rnd_n' {A b : Int} (hb : b < 0) : rnd A b 1 = near (-A) (-b) := by
  unfold rnd
  rw [if_neg (c := (1 : Int) = 0) (by omega), if_pos hb]
/-- the nearer one of the negative is the negative; downwards it is that, or one less -/
theorem rnd_neg1 (A : Int) {b : Int} (hb : b ≠ 0) : rnd (-A) b 1 = -rnd A b 1 := by
  rcases Int.lt_or_gt_of_ne hb with c | c
  · rw [rnd_n' c, rnd_n' c, near_neg (A := -A) (b := -b) (by omega)]
  · rw [rnd_n c, rnd_n c, near_neg c]
theorem rnd_neg0 (A : Int) {b : Int} (hb : b ≠ 0) : rnd (-A) b 0 = -rnd A b 0 ∨ rnd (-A) b 0 = -rnd A b 0 - 1 := by
  rcases Int.lt_or_gt_of_ne hb with c | c
  · rw [rnd_f' c, rnd_f' c]
    have := floor_neg (X := -A) (b := -b) (by omega)
    rw [this]
    split <;> omega
  · rw [rnd_f c, rnd_f c]
    have := floor_neg (X := A) (b := b) (by omega)
    rw [this]
    split <;> omega
/-- what is multiplied and divided by the same -/
theorem rnd_same (a : Int) {c way : Int} (hw : way = 0 ∨ way = 1) (hc : c ≠ 0) : rnd (a * c) c way = a := by
  unfold rnd
  by_cases d : c < 0
  · rw [if_pos d, if_pos d]
    have e : -(a * c) = (-c) * a := by rw [Int.neg_mul, Int.mul_comm]
    rw [e]
    split
    · exact Int.mul_ediv_cancel_left _ (by omega)
    · exact near_exact (by omega)
  · rw [if_neg d, if_neg d, Int.mul_comm]
    split
    · exact Int.mul_ediv_cancel_left _ (by omega)
    · exact near_exact (by omega)
theorem rnd_mono {A B b way : Int} (hb : 0 < b) (hw : way = 0 ∨ way = 1) (h : A ≤ B) : rnd A b way ≤ rnd B b way := by
  rcases hw with rfl | rfl
  · rw [rnd_f hb, rnd_f hb]
    exact Int.ediv_le_ediv hb h
  · rw [rnd_n hb, rnd_n hb]
    exact near_mono hb h
end Go.Proofs.Ytohbdjfabghagaa.WideAlive
end

section
namespace Go.Proofs.Ytohbdjfabghagaa.XRef02
set_option linter.unusedVariables false
set_option linter.unusedSimpArgs false
open Go.RowKit Go.Proofs.Ytohbdjfabghagaa.S Go.Proofs.Ytohbdjfabghagaa.XNum Go.Proofs.Ytohbdjfabghagaa.XWide Go.Proofs.Ytohbdjfabghagaa.Rnd Go.Proofs.YtohbdjfabghagaaW.PrintWords

theorem up_eq (way : Int) (L : Bool) (N D : Nat) : lombardref02_div.up way L N D = upf way N D L := by
  have e1 : ((N % D : Nat) : Int) = (N : Int) % D := Int.natCast_emod N D
  have e2 : ((N / D : Nat) : Int) = (N : Int) / D := Int.natCast_ediv N D
  unfold lombardref02_div.up upf
  rw [← e1, ← e2]
  by_cases c : way = 0
  · rw [if_pos c, if_pos c]
    congr 1
    exact decide_eq_decide.2 (by omega)
  · rw [if_neg c, if_neg c, Bool.eq_iff_iff]
    simp only [Bool.or_eq_true, Bool.and_eq_true, decide_eq_true_iff]
    omega
theorem Q_eq (way : Int) (L : Bool) (N D : Nat) : ((lombardref02_div.Q way L N D : Nat) : Int) = (N : Int) / D + if upf way N D L = true then 1 else 0 := by
  have e2 : ((N / D : Nat) : Int) = (N : Int) / D := Int.natCast_ediv N D
  unfold lombardref02_div.Q
  rw [up_eq, ← e2]
  split <;> omega
theorem told (way : Int) (L : Bool) (N D : Nat) : (lombardref02_div.r way L N D, lombardref02_div.e way L N D) = toldQ ((lombardref02_div.Q way L N D : Nat) : Int) L := by
  have e : (2 : Nat) ^ 63 = 9223372036854775808 := by decide
  unfold lombardref02_div.r lombardref02_div.e lombardref02_small.v lombardref02_small.ok toldQ
  rw [e]
  generalize lombardref02_div.Q way L N D = Q
  cases L
  · by_cases c : Q < 9223372036854775808
    · have z : ¬(9223372036854775808 < Q ∨ Q = 9223372036854775808 ∧ false = false) := by
        intro h
        rcases h with h | h <;> omega
      rw [if_neg z, if_neg z, if_pos rfl, if_pos rfl, if_neg (by simp), if_neg (by simp), if_pos (by omega)]
    · have z : 9223372036854775808 < Q ∨ Q = 9223372036854775808 ∧ false = false := by
        by_cases d : Q = 9223372036854775808
        · exact .inr ⟨d, rfl⟩
        · exact .inl (by omega)
      rw [if_pos z, if_neg (by simp), if_neg (by simp), if_neg (by simp), if_neg (by omega)]
  · by_cases c : Q ≤ 9223372036854775808
    · have z : ¬(9223372036854775808 < Q ∨ Q = 9223372036854775808 ∧ true = false) := by
        intro h
        rcases h with h | h
        · omega
        · exact absurd h.2 (by simp)
      rw [if_neg z, if_neg z, if_pos rfl, if_pos rfl, if_pos rfl, if_pos rfl, if_pos (by omega)]
    · have z : 9223372036854775808 < Q ∨ Q = 9223372036854775808 ∧ true = false := .inl (by omega)
      rw [if_pos z, if_neg (by simp), if_neg (by simp), if_pos rfl, if_neg (by omega)]
theorem zero {way y : Int} (hy : 0 < y) (L : Bool) : toldQ (0 / y + if upf way 0 y L = true then 1 else 0) L = (0, 0) := by
  have u : upf way 0 y L = false := by
    unfold upf
    rw [Int.zero_emod, Int.zero_ediv]
    split
    · simp
    · exact decide_eq_false (by omega)
  rw [u, Int.zero_ediv]
  unfold toldQ
  cases L <;> simp
theorem v_eq {less : Bool} {N : Nat} {b way : Int} : lombardref02_div.v less N b way = mdiv (if less = true then -(N : Int) else N) b way := by
  unfold lombardref02_div.v
  by_cases c : way ≠ 0 ∧ way ≠ 1
  · rw [if_pos c]
    unfold mdiv
    rw [if_pos (by omega)]
  · rw [if_neg c]
    by_cases z : b = 0
    · rw [if_pos z]
      unfold mdiv
      rw [if_neg (by omega), if_pos z]
    · rw [if_neg z, told, Q_eq]
      have hw : way = 0 ∨ way = 1 := by omega
      have hy : ((b.natAbs : Nat) : Int) = if b < 0 then -b else b := by split <;> omega
      have y0 : (0 : Int) < (b.natAbs : Nat) := by omega
      by_cases n0 : N = 0
      · subst n0
        have t := told_rnd (A := 0) (b := b) (way := way) (X := 0) (y := (b.natAbs : Nat)) hw z (by simp) hy
        rw [zero y0] at t
        have w : (if less = true then -((0 : Nat) : Int) else ((0 : Nat) : Int)) = 0 := by split <;> rfl
        rw [w, ← t]
        exact zero y0 _
      · have A0 : decide ((if less = true then -(N : Int) else (N : Int)) < 0) = less := by
          cases less
          · rw [if_neg (by simp)]
            exact decide_eq_false (by omega)
          · rw [if_pos rfl]
            exact decide_eq_true (by omega)
        have t := told_rnd (A := if less = true then -(N : Int) else (N : Int)) (b := b) (way := way) (X := N) (y := (b.natAbs : Nat)) hw z (by
          cases less
          · rw [if_neg (c := false = true) (by simp), if_neg (by omega)]
          · rw [if_pos (c := true = true) rfl, if_pos (by omega), Int.neg_neg]) hy
        rw [A0] at t
        exact t
theorem mulDiv {a b c way : Int} (ha : I64 a) (hb : I64 b) (hc : I64 c) : lombardref02_MulDiv.f a b c way = some (mdiv (a * b) c way) := by
  unfold lombardref02_MulDiv.f
  rw [if_pos ⟨ha.1, ha.2, hb.1, hb.2, hc.1, hc.2⟩, v_eq]
  congr 2
  have h1 : ((a.natAbs : Nat) : Int) = if a < 0 then -a else a := by split <;> omega
  have h2 : ((b.natAbs : Nat) : Int) = if b < 0 then -b else b := by split <;> omega
  rw [Int.natCast_mul, h1, h2]
  by_cases x : a < 0 <;> by_cases y : b < 0 <;> simp [x, y, Int.neg_mul, Int.mul_neg]
end Go.Proofs.Ytohbdjfabghagaa.XRef02
end

section
namespace Go.Proofs.Ytohbdjfabghagaa.XRef02
set_option linter.unusedVariables false
set_option linter.unusedSimpArgs false
open Go.RowKit Go.Proofs.Ytohbdjfabghagaa.S Go.Proofs.Ytohbdjfabghagaa.XNum Go.Proofs.Ytohbdjfabghagaa.XWide Go.Proofs.Ytohbdjfabghagaa.Rnd Go.Proofs.YtohbdjfabghagaaW.PrintWords

theorem div {hi lo b way : Int} (h : I64 hi) (l : U64 lo) (hb : I64 b) : lombardref02_Div.f hi lo b way = some (mdiv (hi * 18446744073709551616 + lo) b way) := by
  unfold lombardref02_Div.f
  obtain ⟨h0, h1⟩ := h
  obtain ⟨l0, l1⟩ := l
  rw [if_pos ⟨h0, h1, l0, by omega, hb.1, hb.2⟩, v_eq]
  congr 2
  have e : (2 : Nat) ^ 128 = 340282366920938463463374607431768211456 := by decide
  unfold B.less B.abs B.two
  rw [e]
  by_cases x : hi < 0
  · rw [decide_eq_true x, if_pos rfl, if_pos x]
    omega
  · rw [decide_eq_false x, if_neg (by simp), if_neg x]
    omega
end Go.Proofs.Ytohbdjfabghagaa.XRef02
end

section
namespace Go.Proofs.Ytohbdjfabghagaa.Pure
set_option linter.unusedVariables false
set_option linter.unusedSimpArgs false
open Go.RowKit Go.Proofs.Ytohbdjfabghagaa.S Go.Proofs.Ytohbdjfabghagaa.XNum Go.Proofs.Ytohbdjfabghagaa.XWide Go.Proofs.Ytohbdjfabghagaa.Rnd Go.Proofs.Ytohbdjfabghagaa.WideAlive Go.Proofs.YtohbdjfabghagaaW.PrintWords Go.Proofs.YtohbdjfabghagaaW.PrintLast

theorem WideDivides : lombardlaw02_WideDivides.Pure := by
  intro hi lo b c d way h l hb hc hd _
  rw [wf64] at h hb hc hd
  rw [wfu64] at l
  replace l : U64 _ := ⟨l.1, by omega⟩
  refine ⟨100, ?_⟩
  unfold lombardlaw02_WideDivides.f
  rw [alive (by omega), div h l hb (by omega), XRef02.div h l hb, mulDiv hc hd hb (by omega), XRef02.mulDiv hc hd hb]
  simp only [Option.bind_some, if_true, beq_self_eq_true]
end Go.Proofs.Ytohbdjfabghagaa.Pure
end

section
namespace Go.Proofs.Ytohbdjfabghagaa.XOpen
set_option linter.unusedVariables false
set_option linter.unusedSimpArgs false
open Go.ChangeShapes Go.WideShapes Go.RowKit Go.Proofs.YtohbdjfabghagaaW.PrintWords
section
variable {H : Type} {enc : TypeId × Value → H} {P : Program} {w : World} {base : Nat} {spare : Nat → Bool} {held : Bool}

/-- Whatever reads as data of type t holds a value of the kind d, and it is good. -/
def Opens {α : Type} (enc : TypeId × Value → H) (P : Program) (w : World) (base : Nat) (spare : Nat → Bool) (held : Bool) (t : TypeId) (d : Kd α) (g : α → Prop) : Prop :=
  ∀ fuel cs x, DataW.trod enc P w base spare held fuel t cs = some x → ∃ a, d.K w a cs ∧ g a

theorem opens_int {t : TypeId} {k : IntKind} (ht : P.underlying t = some (.int k)) : Opens enc P w base spare held t (Kd.int k) (fun a => (Lit.int k a).wf = true) := by
  intro fuel cs x h
  obtain ⟨n, rfl, _, hw⟩ := DataW.trod_int ht h
  exact ⟨n, rfl, hw⟩

theorem opens_bool {t : TypeId} (ht : P.underlying t = some .bool) : Opens enc P w base spare held t Kd.bool (fun _ => True) := by
  intro fuel cs x h
  obtain ⟨n, rfl, _⟩ := DataW.trod_bool ht h
  exact ⟨n, rfl, trivial⟩

theorem opens_string {t : TypeId} (ht : P.underlying t = some .string) : Opens enc P w base spare held t Kd.string (fun s => s.size ≤ maxLen) := by
  intro fuel cs x h
  obtain ⟨s, rfl, _, hs⟩ := DataW.trod_string ht h
  exact ⟨s, rfl, hs⟩

theorem choose_list {α : Type} (n : Nat) (p : Nat → α → Prop) (h : ∀ i, i < n → ∃ a, p i a) : ∃ l : List α, l.length = n ∧ ∀ i a, l[i]? = some a → p i a := by
  induction n with
  | zero => exact ⟨[], rfl, fun i a hi => by simp at hi⟩
  | succ n ih =>
    obtain ⟨l, hl, hp⟩ := ih (fun i hi => h i (by omega))
    obtain ⟨a, ha⟩ := h n (by omega)
    refine ⟨l ++ [a], by simp [hl], fun i b hi => ?_⟩
    by_cases hin : i < n
    · rw [List.getElem?_append_left (by omega)] at hi
      exact hp i b hi
    · by_cases e : i = n
      · subst e
        rw [List.getElem?_append_right (by omega), hl] at hi
        simp at hi
        subst hi
        exact ha
      · rw [List.getElem?_append_right (by omega), hl, List.getElem?_eq_none (by simp; omega)] at hi
        cases hi

theorem opens_slice {α : Type} {t e : TypeId} {d : Kd α} {g : α → Prop} (ht : P.underlying t = some (.slice e)) (hc : P.cellsOf e = d.sz) (he : Opens enc P w base spare held e d g) :
    Opens enc P w base spare held t (Kd.slice e d) (fun l => l.length ≤ maxLen ∧ ∀ a ∈ l, g a) := by
  intro fuel cs x h
  rcases DataW.trod_slice ht h with ⟨rfl, _⟩ | ⟨a, len, cap, elems, rest, n, _, rfl, _, _, hl, hm, hlen, hel, _⟩
  · exact ⟨[], ⟨none, 0, rfl, Nat.le_refl _, rfl, Nat.zero_le _, fun h0 => absurd h0 (Nat.lt_irrefl 0)⟩, Nat.zero_le _, fun a ha => absurd ha List.not_mem_nil⟩
  · have hp : ∀ i, i < len → ∃ q : α, (∃ c : List Value, c.length = d.sz ∧ d.K w q c ∧ ∀ j u, c[j]? = some u → w.cell? (a.add (i * d.sz + j)) = some u) ∧ g q := by
      intro i hi
      have h1 := hel i hi
      have hi' : i < elems.length := by omega
      rw [List.getElem?_eq_getElem hi', Option.bind_eq_some_iff] at h1
      obtain ⟨c, hcs, hy⟩ := h1
      obtain ⟨q, hk, hg⟩ := he _ _ _ hy
      obtain ⟨_, hcl, hat⟩ := World.cells?_some hcs
      refine ⟨q, ⟨c, hcl.trans hc, hk, fun j u hu => ?_⟩, hg⟩
      have hj : j < P.cellsOf e := by
        have := (List.getElem?_eq_some_iff.1 hu).1
        omega
      have h2 := hat j hj
      rw [hu, hc] at h2
      have h3 : (a.add (i * d.sz)).add j = a.add (i * d.sz + j) := by
        exact Go.Deep.add_add a (i * d.sz) j
      rw [h3] at h2
      exact h2
    obtain ⟨l, hll, hall⟩ := choose_list len _ hp
    subst hll
    refine ⟨l, ⟨some a, cap, rfl, hl, ?_⟩, Nat.le_trans hl hm, fun q hq => ?_⟩
    · refine ⟨rfl, ?_, fun _ => ⟨a, rfl, fun j p hj => (hall j p hj).1⟩⟩
      have := Nat.le_trans hl hm
      unfold maxLen at this
      exact this
    · obtain ⟨i, hi⟩ := List.getElem?_of_mem hq
      exact (hall i q hi).2

/-- A field: its cells are those that stand at its place. -/
theorem field_of {α : Type} {t : TypeId} {fs : Array Field} {d : Kd α} {g : α → Prop} {fuel : Nat} {cs : List Value} {x : DataW H × List MemPlace} (ht : P.underlying t = some (.struct fs)) (h : DataW.trod enc P w base spare held fuel t cs = some x)
    (i : Nat) (f : Field) (hf : fs[i]? = some f) (ho : Opens enc P w base spare held f.type d g) (off sz : Nat) (h0 : f.offset = off) (h1 : P.cellsOf f.type = sz) : ∃ a, d.K w a ((cs.drop off).take sz) ∧ g a := by
  subst h0 h1
  obtain ⟨xs, n, _, _, _, hl, hat⟩ := DataW.trod_struct ht h
  have hi : i < xs.length := by
    rw [hl]
    exact (Array.getElem?_eq_some_iff.1 hf).1
  have h2 := hat i f hf
  rw [List.getElem?_eq_getElem hi] at h2
  exact ho _ _ _ h2

theorem cells_len {t : TypeId} {fs : Array Field} {fuel : Nat} {cs : List Value} {x : DataW H × List MemPlace} (ht : P.underlying t = some (.struct fs)) (h : DataW.trod enc P w base spare held fuel t cs = some x) : cs.length = P.cellsOf t := by
  obtain ⟨xs, n, _, _, hl, _⟩ := DataW.trod_struct ht h
  exact hl

theorem K_pair {α β : Type} {a : Kd α} {b : Kd β} {x : α} {y : β} {cs : List Value} (n : Nat) (h0 : a.K w x (cs.take n)) (h1 : b.K w y (cs.drop n)) : (Kd.pair a b).K w (x, y) cs :=
  ⟨cs.take n, cs.drop n, (List.take_append_drop n cs).symm, h0, h1⟩

theorem drop_drop' (cs : List Value) (m n : Nat) : (cs.drop m).drop n = cs.drop (m + n) := List.drop_drop

theorem K_pair' {α β : Type} {a : Kd α} {b : Kd β} {x : α} {y : β} {cs : List Value} (off n : Nat) (h0 : a.K w x ((cs.drop off).take n)) (h1 : b.K w y (cs.drop (off + n))) : (Kd.pair a b).K w (x, y) (cs.drop off) :=
  K_pair n h0 (by rw [drop_drop']; exact h1)

theorem K_last {α : Type} {a : Kd α} {x : α} {cs : List Value} (off n : Nat) (h0 : a.K w x ((cs.drop off).take n)) (hl : cs.length ≤ off + n) : a.K w x (cs.drop off) := by
  rw [List.take_of_length_le (by rw [List.length_drop]; omega)] at h0
  exact h0

theorem K_all {α : Type} {a : Kd α} {x : α} {cs : List Value} (h0 : a.K w x (cs.drop 0)) : a.K w x cs := h0

theorem okWide_agg {r : Reach} {t : TypeId} {fs : Array Field} {v : Value} (ht : P.underlying t = some (.struct fs)) (h : Value.okWide P w r base t v) : ∃ cs, v = .agg cs := by
  obtain ⟨cs, h, _⟩ := okWide_struct ht h
  exact ⟨cs, h⟩

theorem agg_of {cs : Array Value} {l : List Value} (h : (Value.agg cs).cells.toList = l) : cs = l.toArray := by
  subst h
  simp [Value.cells]

theorem slice_of {a : Option Addr} {len cap : Nat} {A : Option Addr} {n c : Nat} (h : (Value.slice a len cap).cells.toList = [.slice A n c]) : a = A ∧ len = n ∧ cap = c := by
  simpa [Value.cells] using h
end
end Go.Proofs.Ytohbdjfabghagaa.XOpen
end

section
namespace Go.Proofs.Ytohbdjfabghagaa.wideDivides
open Go.ChangeShapes Go.WideShapes Go.ChangeAt Go.RowKit Go.Proofs.Ytohbdjfabghagaa.S Go.Proofs.YtohbdjfabghagaaW.PrintWords Go.Proofs.Ytohbdjfabghagaa.XOpen
open Go.ChangeMaps (open_string shut_string)
set_option linter.unusedVariables false
theorem own : ownKnob Try.prog.godebug = none := by kernel_rfl
theorem laidOut : laidOutB Try.prog = true := by kernel_rfl
theorem opens_S24 {H : Type} {enc : TypeId × Value → H} {w : World} {base : Nat} {spare : Nat → Bool} {held : Bool} : Opens enc Try.prog w base spare held 24 k24 (fun a => ((Lit.int .i64 a.f0).wf = true ∧ (Lit.int .u64 a.f1).wf = true)) := by
  intro fuel cs x h
  have hl : cs.length = 2 := (cells_len Try.underlying24 h).trans (by kernel_rfl)
  obtain ⟨a0, h0, g0⟩ := field_of Try.underlying24 h 0 _ rfl (opens_int Try.underlying2) 0 1 rfl (by kernel_rfl)
  obtain ⟨a1, h1, g1⟩ := field_of Try.underlying24 h 1 _ rfl (opens_int Try.underlying22) 1 1 rfl (by kernel_rfl)
  refine ⟨⟨a0, a1⟩, ?_, ⟨g0, g1⟩⟩
  exact K_all (K_pair' 0 1 h0 (K_last 1 1 h1 (by omega)))
theorem opens_S26 {H : Type} {enc : TypeId × Value → H} {w : World} {base : Nat} {spare : Nat → Bool} {held : Bool} : Opens enc Try.prog w base spare held 26 k26 (fun a => (((Lit.int .i64 a.f0.f0).wf = true ∧ (Lit.int .u64 a.f0.f1).wf = true) ∧ (Lit.int .i64 a.f1).wf = true ∧ (Lit.int .i64 a.f2).wf = true ∧ (Lit.int .i64 a.f3).wf = true ∧ (Lit.int .i64 a.f4).wf = true)) := by
  intro fuel cs x h
  have hl : cs.length = 6 := (cells_len Try.underlying26 h).trans (by kernel_rfl)
  obtain ⟨a0, h0, g0⟩ := field_of Try.underlying26 h 0 _ rfl opens_S24 0 2 rfl (by kernel_rfl)
  obtain ⟨a1, h1, g1⟩ := field_of Try.underlying26 h 1 _ rfl (opens_int Try.underlying2) 2 1 rfl (by kernel_rfl)
  obtain ⟨a2, h2, g2⟩ := field_of Try.underlying26 h 2 _ rfl (opens_int Try.underlying2) 3 1 rfl (by kernel_rfl)
  obtain ⟨a3, h3, g3⟩ := field_of Try.underlying26 h 3 _ rfl (opens_int Try.underlying2) 4 1 rfl (by kernel_rfl)
  obtain ⟨a4, h4, g4⟩ := field_of Try.underlying26 h 4 _ rfl (opens_int Try.underlying3) 5 1 rfl (by kernel_rfl)
  refine ⟨⟨a0, a1, a2, a3, a4⟩, ?_, ⟨g0, g1, g2, g3, g4⟩⟩
  exact K_all (K_pair' 0 2 h0 (K_pair' 2 1 h1 (K_pair' 3 1 h2 (K_pair' 4 1 h3 (K_last 5 1 h4 (by omega))))))
set_option maxRecDepth 100000 in
theorem lifted (os : Os) (started : os.Started) (H : Type) (enc : TypeId × Value → H) :
    ReturnsInHanded {} Try.checked os 3 .any (Rows.wideDividesSpec.pre6 enc Try.prog Try.f3 Rows.wideDividesRow.domain false) (Rows.wideDividesSpec.post enc Try.prog Try.f3 false true false false) := by
  refine returnsInHanded_of_change_sized (C := Try.checked) own started (by kernel_rfl) Try.func3
    (ChangeSpec.witness6 (enc := enc) (C := Try.checked) false ⟨#[], #[.agg #[.int .i64 0, .int .u64 0, .int .i64 0, .int .i64 0, .int .i64 0, .int .i64 0]], []⟩ 8 (by kernel_rfl) (by kernel_rfl) (by kernel_rfl) (by kernel_rfl)) ?_
  intro W base args ds gs before hval0 hW hcnd hsz0 _
  have hval : ∀ (j : Nat) t v, Try.f3.params[j]? = some t → args[j]? = some v → Value.okWide Try.prog W .any base t v := hval0
  have hW' := hW
  obtain ⟨p, q, hA0, hV, rfl, hfz, hnd⟩ := hW
  have hA : DataW.TrodAll enc Try.prog W 0 (fun _ => true) true Try.f3.params.toList args.toList ds p := hA0
  rw [Try.params3] at hA hval
  obtain ⟨v0, vs0, d0, ds0, p0, q0, hargs, rfl, rfl, h0, r0⟩ := trodAll_cons hA
  obtain ⟨rfl, rfl, rfl⟩ := trodAll_nil r0
  obtain rfl : args = #[v0] := by cases args; simp_all
  obtain ⟨rfl, rfl⟩ := trodVars_none hV
  clear hA0 hsz0
  have k0 := h0
  have lt0 : ∀ x ∈ p0, x.block < W.heap.size := by obtain ⟨m, hm⟩ := k0; exact DataW.trod_lt m _ _ _ hm
  obtain ⟨u0, hf0⟩ := h0
  obtain ⟨s0, hk0, hg0⟩ := opens_S26 _ _ _ hf0
  have he0 := k26_open hk0
  obtain ⟨b0, rfl⟩ := okWide_agg Try.underlying26 (hval 0 26 v0 rfl rfl)
  obtain rfl := agg_of he0
  refine (S.lombardlaw02_WideDivides.walk Pure.WideDivides s0.f0.f0 s0.f0.f1 s0.f1 s0.f2 s0.f3 s0.f4 W  hg0.1.1 hg0.1.2 hg0.2.1 hg0.2.2.1 hg0.2.2.2.1 hg0.2.2.2.2).mono fun e W' ⟨he, bel⟩ => ?_
  subst he
  exact ⟨_, rfl, _, _, _, [], _, [], hW', trodAll_mk1 (shut_bool Try.underlying4 _), (trodAll_cons_mk (Below.trod laidOut (by kernel_rfl) (of_decide_eq_true (by kernel_rfl)) k0 bel lt0) trodAll_mk0), rfl, bel.frame _, fun h => by cases h⟩
theorem over : Rows.wideDividesRow.holds Try.pinned (OpenSpec.ofChange Rows.wideDividesSpec) :=
  OpenClaim.holds_of_wide 3 Try.f3 rfl rfl rfl rfl rfl rfl rfl ⟨rfl, rfl, rfl, rfl, rfl⟩ rfl rfl rfl rfl rfl (by kernel_rfl) Try.func3 (by kernel_rfl)
    (of_decide_eq_true (by kernel_rfl)) (by unfold Func.isWrapper; first | (rw [if_pos (by decide +kernel)]; kernel_rfl) | (rw [if_neg (by decide +kernel)]; exact ⟨rfl, rfl⟩))
    (fun os started H enc _ => lifted os started H enc)
theorem proved : Rows.WideDividesSaid := over
#print axioms proved
end Go.Proofs.Ytohbdjfabghagaa.wideDivides
namespace Go.Proofs.Ytohbdjfabghagaa
/-- The row, under a short name, for the claim. -/
theorem wideDivides_holds : Rows.WideDividesSaid := wideDivides.proved
end Go.Proofs.Ytohbdjfabghagaa
end
