/- The statement WideOrdersSaid: for every input the law returns true, and each argument reads afterwards as it read before. Conditions: none. -/
import Derived.Test.YtohbdjfabghagaaWideAlive
import Derived.Test.YtohbdjfabghagaaSxWideNeg
import Derived.Test.YtohbdjfabghagaaSxWideOf
import Derived.Test.YtohbdjfabghagaaSxWideAdd
import Derived.Test.YtohbdjfabghagaaSxWideCompare
import Derived.Test.YtohbdjfabghagaaSxLombardlaw02WideOrders
import Derived.Test.YtohbdjfabghagaaRows
import Derived.Test.YtohbdjfabghagaaXOpen
import Derived.WalkKit
import Derived.ProofKit
import Derived.OpenShut
import Derived.ShutString
import Derived.ChangeOld
import Derived.Below
import Derived.SizedLaws
import Derived.Carry
section
namespace Go.Proofs.Ytohbdjfabghagaa.XNeg
set_option linter.unusedVariables false
set_option linter.unusedSimpArgs false
open Go.RowKit Go.Proofs.Ytohbdjfabghagaa.S Go.Proofs.Ytohbdjfabghagaa.XNum Go.Proofs.Ytohbdjfabghagaa.XBits Go.Proofs.Ytohbdjfabghagaa.XWide Go.Proofs.YtohbdjfabghagaaW.PrintWords

theorem of {n : Int} (h : I64 n) : wide_Of.f n = some (n / 18446744073709551616, n % 18446744073709551616) := by
  obtain ⟨h0, h1⟩ := h
  unfold wide_Of.f
  rw [wu]
  congr 2
  omega

/-- a wide number, or that it is too great -/
def toldW (n : Int) : Int × Int × Int := if -170141183460469231731687303715884105728 ≤ n ∧ n ≤ 170141183460469231731687303715884105727 then (n / 18446744073709551616, n % 18446744073709551616, 0) else (0, 0, 3)
theorem neg {hi lo : Int} (h : I64 hi) (l : U64 lo) : wide_Neg.f hi lo = some (toldW (-(hi * 18446744073709551616 + lo))) := by
  obtain ⟨h', l', e, i1, i2, i3⟩ := turned h l
  unfold wide_Neg.f
  rw [e]
  simp only [Option.bind_some]
  obtain ⟨h0, h1⟩ := h
  obtain ⟨l0, l1⟩ := l
  obtain ⟨p0, p1⟩ := i1
  obtain ⟨q0, q1⟩ := i2
  unfold toldW
  by_cases c : hi < 0
  · rw [if_pos c]
    by_cases d : h' < 0
    · rw [if_pos d, if_neg (by omega)]
    · rw [if_neg d, if_pos (by omega)]
      congr 2
      · omega
      · congr 1
        omega
  · rw [if_neg c, if_pos (by omega)]
    congr 2
    · omega
    · congr 1
      omega
theorem add {h1 l1 h2 l2 : Int} (a : I64 h1) (b : U64 l1) (c : I64 h2) (d : U64 l2) : wide_Add.f h1 l1 h2 l2 = some (toldW (h1 * 18446744073709551616 + l1 + (h2 * 18446744073709551616 + l2))) := by
  obtain ⟨a0, a1⟩ := a
  obtain ⟨b0, b1⟩ := b
  obtain ⟨c0, c1⟩ := c
  obtain ⟨d0, d1⟩ := d
  unfold wide_Add.f
  rw [if_pos b0, if_pos d0]
  have ec : XWalk.c64 l1 l2 0 * 18446744073709551616 + XWalk.s64 l1 l2 0 = l1 + l2 := by unfold XWalk.c64 XWalk.s64; omega
  have e0 : 0 ≤ XWalk.c64 l1 l2 0 ∧ XWalk.c64 l1 l2 0 ≤ 1 := by unfold XWalk.c64; omega
  have e1 : 0 ≤ XWalk.s64 l1 l2 0 ∧ XWalk.s64 l1 l2 0 < 18446744073709551616 := by unfold XWalk.s64; omega
  generalize XWalk.c64 l1 l2 0 = cc at *
  generalize XWalk.s64 l1 l2 0 = ss at *
  rw [w64 (n := cc) (by omega) (by omega)]
  have W : wrap64 (wrap64 (h1 + h2) + cc) = wrap64 (h1 + h2 + cc) := by unfold wrap64; omega
  rw [W]
  unfold toldW
  by_cases x : h1 < 0
  · rw [decide_eq_true x]
    by_cases y : h2 < 0
    · rw [decide_eq_true y]
      simp only [beq_self_eq_true, if_true]
      by_cases z : h1 + h2 + cc < -9223372036854775808
      · rw [decide_eq_false (by unfold wrap64; omega), if_neg (c := _ ∧ _) (by omega)]
        simp
      · rw [w64 (n := h1 + h2 + cc) (by omega) (by omega), decide_eq_true (by omega), if_pos (c := _ ∧ _) (by omega)]
        simp
        constructor <;> omega
    · rw [decide_eq_false y]
      simp only [beq_false, Bool.not_true, Bool.false_eq_true, if_false]
      rw [w64 (n := h1 + h2 + cc) (by omega) (by omega), if_pos (c := _ ∧ _) (by omega)]
      simp
      constructor <;> omega
  · rw [decide_eq_false x]
    by_cases y : h2 < 0
    · rw [decide_eq_true y]
      simp only [beq_true, Bool.false_eq_true, if_false]
      rw [w64 (n := h1 + h2 + cc) (by omega) (by omega), if_pos (c := _ ∧ _) (by omega)]
      simp
      constructor <;> omega
    · rw [decide_eq_false y]
      simp only [beq_self_eq_true, if_true]
      by_cases z : h1 + h2 + cc > 9223372036854775807
      · rw [decide_eq_true (by unfold wrap64; omega), if_neg (c := _ ∧ _) (by omega)]
        simp
      · rw [w64 (n := h1 + h2 + cc) (by omega) (by omega), decide_eq_false (by omega), if_pos (c := _ ∧ _) (by omega)]
        simp
        constructor <;> omega

/-- how two numbers stand -/
def ord (a b : Int) : Int := if a < b then -1 else if a > b then 1 else 0
theorem cmpi (a b : Int) : cmp_Compare_int64.f a b = some (ord a b) := by
  unfold cmp_Compare_int64.f cmp_isNaN_int64.f ord
  simp
  split
  · rfl
  · split <;> rfl
theorem cmpu (a b : Int) : cmp_Compare_uint64.f a b = some (ord a b) := by
  unfold cmp_Compare_uint64.f cmp_isNaN_uint64.f ord
  simp
  split
  · rfl
  · split <;> rfl
theorem or2 (x y : Int) {k : Nat} (hk : 3 ≤ k) : cmp_Or_int.f k [x, y] = some (if x = 0 then y else x) := by
  obtain ⟨k, rfl⟩ : ∃ m, k = m + 3 := ⟨k - 3, by omega⟩
  unfold cmp_Or_int.f
  simp only [cmp_Or_int.l0]
  rw [if_pos (by simp), if_pos (by simp), if_pos (by simp)]
  by_cases c : x = 0
  · rw [if_pos (by simp [rd, c]), if_pos c]
    rw [show wrap64 (0 + 1) = 1 by unfold wrap64; omega, if_pos (by simp), if_pos (by simp), if_pos (by simp)]
    by_cases d : y = 0
    · rw [if_pos (by simp [rd, d]), show wrap64 (1 + 1) = 2 by unfold wrap64; omega, if_neg (by simp), d]
    · rw [if_neg (by simp [rd, d])]
      simp [rd]
  · rw [if_neg (by simp [rd, c]), if_neg c]
    simp [rd]
theorem compare {h1 l1 h2 l2 : Int} (b : U64 l1) (d : U64 l2) {k : Nat} (hk : 3 ≤ k) : wide_Compare.f k h1 l1 h2 l2 = some (ord (h1 * 18446744073709551616 + l1) (h2 * 18446744073709551616 + l2)) := by
  obtain ⟨b0, b1⟩ := b
  obtain ⟨d0, d1⟩ := d
  unfold wide_Compare.f
  rw [cmpi, cmpu]
  simp only [Option.bind_some]
  rw [or2 _ _ hk]
  simp only [Option.bind_some]
  congr 1
  unfold ord
  by_cases x : h1 < h2
  · rw [if_pos x, if_neg (by omega), if_pos (by omega)]
  · rw [if_neg x]
    by_cases y : h1 > h2
    · rw [if_pos y, if_neg (by omega), if_neg (by omega), if_pos (by omega)]
    · rw [if_neg y, if_pos rfl]
      have : h1 = h2 := by omega
      subst this
      by_cases z : l1 < l2
      · rw [if_pos z, if_pos (by omega)]
      · rw [if_neg z, if_neg (c := h1 * _ + l1 < _) (by omega)]
        by_cases w : l1 > l2
        · rw [if_pos w, if_pos (by omega)]
        · rw [if_neg w, if_neg (by omega)]
end Go.Proofs.Ytohbdjfabghagaa.XNeg
end

section
namespace Go.Proofs.Ytohbdjfabghagaa.Pure
set_option linter.unusedVariables false
set_option linter.unusedSimpArgs false
open Go.RowKit Go.Proofs.Ytohbdjfabghagaa.S Go.Proofs.Ytohbdjfabghagaa.XNum Go.Proofs.Ytohbdjfabghagaa.XWide Go.Proofs.Ytohbdjfabghagaa.Rnd Go.Proofs.Ytohbdjfabghagaa.WideAlive Go.Proofs.Ytohbdjfabghagaa.XNeg Go.Proofs.YtohbdjfabghagaaW.PrintWords Go.Proofs.YtohbdjfabghagaaW.PrintLast

theorem ord_neg (a b : Int) : ord a b = wrap64 (-ord b a) := by
  unfold ord wrap64
  by_cases c : a < b
  · rw [if_pos c, if_neg (by omega), if_pos (by omega)]
    omega
  · by_cases d : b < a
    · rw [if_neg c, if_pos (by omega), if_pos (by omega)]
      omega
    · rw [if_neg c, if_neg (by omega), if_neg (by omega), if_neg (by omega)]
      omega
theorem ord_self (a : Int) : ord a a = 0 := by
  unfold ord
  rw [if_neg (by omega), if_neg (by omega)]
theorem ord_zero (a b : Int) : (ord a b == 0) = decide (a = b) := by
  unfold ord
  by_cases c : a < b
  · rw [if_pos c, decide_eq_false (by omega)]
    rfl
  · by_cases d : b < a
    · rw [if_neg c, if_pos (by omega), decide_eq_false (by omega)]
      rfl
    · rw [if_neg c, if_neg (by omega), decide_eq_true (by omega)]
      rfl

theorem orders_l0 {h1 l1 h2 l2 d : Int} (a : I64 h1) (b : U64 l1) (c : I64 h2) (e : U64 l2) (hd : I64 d) (d0 : 0 < d) (hle : h1 * 18446744073709551616 + l1 ≤ h2 * 18446744073709551616 + l2) (k : Nat) (hk : 40 ≤ k) :
    lombardlaw02_WideOrders.l0 k d 0 h1 l1 h2 l2 = some true := by
  obtain ⟨k, rfl⟩ : ∃ m, k = m + 3 := ⟨k - 3, by omega⟩
  have step : ∀ (way : Int) (k : Nat), way = 0 ∨ way = 1 → 30 ≤ k → lombardlaw02_WideOrders.l0 (k + 1) d way h1 l1 h2 l2 = lombardlaw02_WideOrders.l0 k d (wrap64 (way + 1)) h1 l1 h2 l2 := by
    intro way k hw hk
    rw [lombardlaw02_WideOrders.l0, if_pos (by omega), div a b hd hk, div c e hd hk]
    simp only [Option.bind_some]
    have m := rnd_mono (way := way) d0 hw hle
    rcases mdiv_two (A := h1 * 18446744073709551616 + l1) (b := d) hw (by omega) with ⟨x, _⟩ | x <;> rw [x]
    · rcases mdiv_two (A := h2 * 18446744073709551616 + l2) (b := d) hw (by omega) with ⟨y, _⟩ | y <;> rw [y]
      · simp only [if_true]
        rw [if_neg (by omega)]
      · simp
    · simp
  rw [step 0 (k + 2) (.inl rfl) (by omega), w64 (by omega) (by omega), Int.zero_add, step 1 (k + 1) (.inr rfl) (by omega), w64 (by omega) (by omega)]
  rw [lombardlaw02_WideOrders.l0, if_neg (by omega)]

theorem orders_j1 {h1 l1 h2 l2 d : Int} (a : I64 h1) (b : U64 l1) (c : I64 h2) (e : U64 l2) (hd : I64 d) (k : Nat) (hk : 50 ≤ k) :
    lombardlaw02_WideOrders.j1 k d h1 l1 h2 l2 = some true := by
  obtain ⟨k, rfl⟩ : ∃ m, k = m + 2 := ⟨k - 2, by omega⟩
  rw [lombardlaw02_WideOrders.j1]
  by_cases x : d ≤ 0
  · rw [if_pos x, lombardlaw02_WideOrders.j2, if_pos rfl]
  · rw [if_neg x, compare b e (by omega)]
    simp only [Option.bind_some]
    by_cases y : h1 * 18446744073709551616 + l1 ≤ h2 * 18446744073709551616 + l2
    · have z : ¬(ord (h1 * 18446744073709551616 + l1) (h2 * 18446744073709551616 + l2) > 0) := by
        unfold ord
        split
        · omega
        · rw [if_neg (by omega)]
          omega
      rw [decide_eq_false z, lombardlaw02_WideOrders.j2, if_neg (by simp)]
      exact orders_l0 a b c e hd (by omega) y k (by omega)
    · have z : ord (h1 * 18446744073709551616 + l1) (h2 * 18446744073709551616 + l2) > 0 := by
        unfold ord
        rw [if_neg (by omega), if_pos (by omega)]
        omega
      rw [decide_eq_true z, lombardlaw02_WideOrders.j2, if_pos rfl]

theorem orders_j0 {h1 l1 h2 l2 d : Int} (a : I64 h1) (b : U64 l1) (c : I64 h2) (e : U64 l2) (hd : I64 d) (k : Nat) (hk : 60 ≤ k) :
    lombardlaw02_WideOrders.j0 k d false h1 l1 h2 l2 = some true := by
  obtain ⟨k, rfl⟩ : ∃ m, k = m + 1 := ⟨k - 1, by omega⟩
  rw [lombardlaw02_WideOrders.j0, if_neg (by simp), neg a b]
  simp only [Option.bind_some]
  have a' := a
  have b' := b
  obtain ⟨a0, a1⟩ := a'
  obtain ⟨b0, b1⟩ := b'
  unfold toldW
  by_cases x : -170141183460469231731687303715884105728 ≤ -(h1 * 18446744073709551616 + l1) ∧ -(h1 * 18446744073709551616 + l1) ≤ 170141183460469231731687303715884105727
  · rw [if_pos x]
    simp only [if_true]
    rw [add a b ⟨by omega, by omega⟩ ⟨by omega, by omega⟩]
    simp only [Option.bind_some]
    unfold toldW
    rw [show h1 * 18446744073709551616 + l1 + (-(h1 * 18446744073709551616 + l1) / 18446744073709551616 * 18446744073709551616 + -(h1 * 18446744073709551616 + l1) % 18446744073709551616) = 0 by omega]
    rw [if_pos (c := _ ∧ _) (by omega)]
    simp only [show (0 : Int) / 18446744073709551616 = 0 by decide, show (0 : Int) % 18446744073709551616 = 0 by decide, beq_self_eq_true, Bool.not_true, Bool.or_self, Bool.false_eq_true, if_false, if_true]
    exact orders_j1 a b c e hd k (by omega)
  · rw [if_neg x]
    simp only [show ((3 : Int) = 0) = False by simp, if_false]
    exact orders_j1 a b c e hd k (by omega)

theorem WideOrders : lombardlaw02_WideOrders.Pure := by
  intro h1 l1 h2 l2 d a b c e hd
  rw [wf64] at a c hd
  rw [wfu64] at b e
  have b' : U64 l1 := ⟨b.1, by omega⟩
  have e' : U64 l2 := ⟨e.1, by omega⟩
  refine ⟨100, ?_⟩
  unfold lombardlaw02_WideOrders.f
  rw [alive (by omega)]
  simp only [Option.bind_some, if_true]
  rw [add a b' c e', add c e' a b', Int.add_comm (h2 * 18446744073709551616 + l2)]
  simp only [Option.bind_some]
  generalize toldW (h1 * 18446744073709551616 + l1 + (h2 * 18446744073709551616 + l2)) = S
  simp only [beq_self_eq_true, Bool.not_true, Bool.or_self, Bool.false_eq_true, if_false, if_true]
  rw [compare b' e' (by omega), compare e' b' (by omega), compare b' b' (by omega)]
  simp only [Option.bind_some]
  rw [if_pos (ord_neg _ _), ord_self, if_pos rfl, ord_zero]
  have z : (h1 == h2 && l1 == l2) = decide (h1 * 18446744073709551616 + l1 = h2 * 18446744073709551616 + l2) := by
    rw [Bool.eq_iff_iff, Bool.and_eq_true, beq_iff_eq, beq_iff_eq, decide_eq_true_iff]
    omega
  rw [z]
  simp only [beq_self_eq_true, Bool.not_true]
  exact orders_j0 a b' c e' hd 100 (by omega)
end Go.Proofs.Ytohbdjfabghagaa.Pure
end

section
namespace Go.Proofs.Ytohbdjfabghagaa.wideOrders
open Go.ChangeShapes Go.WideShapes Go.ChangeAt Go.RowKit Go.Proofs.Ytohbdjfabghagaa.S Go.Proofs.YtohbdjfabghagaaW.PrintWords Go.Proofs.Ytohbdjfabghagaa.XOpen
open Go.ChangeMaps (open_string shut_string)
set_option linter.unusedVariables false
theorem own : ownKnob Try.prog.godebug = none := by kernel_rfl
theorem laidOut : laidOutB Try.prog = true := by kernel_rfl
theorem opens_S24 {H : Type} {enc : TypeId × Value → H} {w : World} {base : Nat} {spare : Nat → Bool} {held : Bool} : Opens enc Try.prog w base spare held 24 k24 (fun a => ((Lit.int .i64 a.f0).wf = true ∧ (Lit.int .u64 a.f1).wf = true)) := by
  intro fuel cs x h
  have hl : cs.length = 2 := (cells_len Try.underlying24 h).trans (by kernel_rfl)
  obtain ⟨a0, h0, g0⟩ := field_of Try.underlying24 h 0 _ rfl (opens_int Try.underlying2) 0 1 rfl (by kernel_rfl)
  obtain ⟨a1, h1, g1⟩ := field_of Try.underlying24 h 1 _ rfl (opens_int Try.underlying22) 1 1 rfl (by kernel_rfl)
  refine ⟨⟨a0, a1⟩, ?_, ⟨g0, g1⟩⟩
  exact K_all (K_pair' 0 1 h0 (K_last 1 1 h1 (by omega)))
set_option maxRecDepth 100000 in
theorem lifted (os : Os) (started : os.Started) (H : Type) (enc : TypeId × Value → H) :
    ReturnsInHanded {} Try.checked os 13 .any (Rows.wideOrdersSpec.pre6 enc Try.prog Try.f13 Rows.wideOrdersRow.domain false) (Rows.wideOrdersSpec.post enc Try.prog Try.f13 false true false false) := by
  refine returnsInHanded_of_change_sized (C := Try.checked) own started (by kernel_rfl) Try.func13
    (ChangeSpec.witness6 (enc := enc) (C := Try.checked) false ⟨#[], #[.agg #[.int .i64 0, .int .u64 0], .agg #[.int .i64 0, .int .u64 0], .int .i64 0], []⟩ 8 (by kernel_rfl) (by kernel_rfl) (by kernel_rfl) (by kernel_rfl)) ?_
  intro W base args ds gs before hval0 hW hcnd hsz0 _
  have hval : ∀ (j : Nat) t v, Try.f13.params[j]? = some t → args[j]? = some v → Value.okWide Try.prog W .any base t v := hval0
  have hW' := hW
  obtain ⟨p, q, hA0, hV, rfl, hfz, hnd⟩ := hW
  have hA : DataW.TrodAll enc Try.prog W 0 (fun _ => true) true Try.f13.params.toList args.toList ds p := hA0
  rw [Try.params13] at hA hval
  obtain ⟨v0, vs0, d0, ds0, p0, q0, hargs, rfl, rfl, h0, r0⟩ := trodAll_cons hA
  obtain ⟨v1, vs1, d1, ds1, p1, q1, rfl, rfl, rfl, h1, r1⟩ := trodAll_cons r0
  obtain ⟨v2, vs2, d2, ds2, p2, q2, rfl, rfl, rfl, h2, r2⟩ := trodAll_cons r1
  obtain ⟨rfl, rfl, rfl⟩ := trodAll_nil r2
  obtain rfl : args = #[v0, v1, v2] := by cases args; simp_all
  obtain ⟨rfl, rfl⟩ := trodVars_none hV
  clear hA0 hsz0
  have k0 := h0
  have lt0 : ∀ x ∈ p0, x.block < W.heap.size := by obtain ⟨m, hm⟩ := k0; exact DataW.trod_lt m _ _ _ hm
  obtain ⟨u0, hf0⟩ := h0
  obtain ⟨s0, hk0, hg0⟩ := opens_S24 _ _ _ hf0
  have he0 := k24_open hk0
  obtain ⟨b0, rfl⟩ := okWide_agg Try.underlying24 (hval 0 24 v0 rfl rfl)
  obtain rfl := agg_of he0
  have k1 := h1
  have lt1 : ∀ x ∈ p1, x.block < W.heap.size := by obtain ⟨m, hm⟩ := k1; exact DataW.trod_lt m _ _ _ hm
  obtain ⟨u1, hf1⟩ := h1
  obtain ⟨s1, hk1, hg1⟩ := opens_S24 _ _ _ hf1
  have he1 := k24_open hk1
  obtain ⟨b1, rfl⟩ := okWide_agg Try.underlying24 (hval 1 24 v1 rfl rfl)
  obtain rfl := agg_of he1
  obtain ⟨a2, rfl, rfl, rfl, w2⟩ := open_int Try.underlying2 (hval 2 2 v2 rfl rfl) h2
  refine (S.lombardlaw02_WideOrders.walk Pure.WideOrders s0.f0 s0.f1 s1.f0 s1.f1 a2 W  hg0.1 hg0.2 hg1.1 hg1.2 w2).mono fun e W' ⟨he, bel⟩ => ?_
  subst he
  exact ⟨_, rfl, _, _, _, [], _, [], hW', trodAll_mk1 (shut_bool Try.underlying4 _), (trodAll_cons_mk (Below.trod laidOut (by kernel_rfl) (of_decide_eq_true (by kernel_rfl)) k0 bel lt0) (trodAll_cons_mk (Below.trod laidOut (by kernel_rfl) (of_decide_eq_true (by kernel_rfl)) k1 bel lt1) (trodAll_cons_mk (shut_int Try.underlying2 w2) trodAll_mk0))), rfl, bel.frame _, fun h => by cases h⟩
theorem over : Rows.wideOrdersRow.holds Try.pinned (OpenSpec.ofChange Rows.wideOrdersSpec) :=
  OpenClaim.holds_of_wide 13 Try.f13 rfl rfl rfl rfl rfl rfl rfl ⟨rfl, rfl, rfl, rfl, rfl⟩ rfl rfl rfl rfl rfl (by kernel_rfl) Try.func13 (by kernel_rfl)
    (of_decide_eq_true (by kernel_rfl)) (by unfold Func.isWrapper; first | (rw [if_pos (by decide +kernel)]; kernel_rfl) | (rw [if_neg (by decide +kernel)]; exact ⟨rfl, rfl⟩))
    (fun os started H enc _ => lifted os started H enc)
theorem proved : Rows.WideOrdersSaid := over
#print axioms proved
end Go.Proofs.Ytohbdjfabghagaa.wideOrders
namespace Go.Proofs.Ytohbdjfabghagaa
/-- The row, under a short name, for the claim. -/
theorem wideOrders_holds : Rows.WideOrdersSaid := wideOrders.proved
end Go.Proofs.Ytohbdjfabghagaa
end
