/- Printed by a program of this session out of the translation: what each function called here computes, and that its call comes to just that. Conditions: none beyond those that each theorem names. -/
import Derived.Test.YtohbdjfabghagaaSx0
import Derived.Test.YtohbdjfabghagaaSxLombardref02Size
namespace Go.Proofs.Ytohbdjfabghagaa.S
open Go.RowKit Go.Proofs.YtohbdjfabghagaaW.PrintWords Go.Proofs.YtohbdjfabghagaaW.PrintLast Go.Proofs.YtohbdjfabghagaaW.PrintMore
attribute [local go_sem] max2_int min2_int max_two min_two max_three min_three max_four min_four   -- for this text's walks alone
attribute [local go_sem] Go.Proofs.Ytohbdjfabghagaa.XWalk.cell2
set_option linter.unusedVariables false
set_option linter.unusedSimpArgs false

/-! ### lombardref02_big: function 52 -/
-- IMPORT BigMath
/-- A sign and a row of bits, as a value. -/
def B.big (less : Bool) (N : Nat) : Array Value := #[.bool less] ++ B.cells N
theorem B.big_size (less : Bool) (N : Nat) : (B.big less N).size = 261 := by
  unfold B.big
  rw [Array.size_append, B.size]
  rfl
theorem B.big_zero (less : Bool) (N : Nat) : (B.big less N)[0]? = some (.bool less) := by
  unfold B.big
  rw [Array.getElem?_append_left (by simp)]
  rfl
theorem B.big_get (less : Bool) (N i : Nat) (h : i < 260) : (B.big less N)[1 + i]? = some (.int .u8 (B.bit N i)) := by
  unfold B.big
  rw [Array.getElem?_append_right (by show 1 ≤ 1 + i; omega)]
  show (B.cells N)[1 + i - 1]? = _
  rw [show 1 + i - 1 = i by omega, B.get N i h]
theorem B.zeroB : Try.zeroCells75 = B.big false 0 := by
  have e : Try.zeroCells75 = #[.bool false] ++ Array.replicate 260 (.int .u8 0) := by kernel_rfl
  rw [e, B.rep]
  rfl
def B.HasB (w : World) (g : Nat) (less : Bool) (N : Nat) : Prop := w.heap[g]? = some (.cells (B.big less N) 75 (0, 0))
theorem B.HasB.cell {w : World} {g N : Nat} {less : Bool} (h : B.HasB w g less N) {i : Nat} (hi : i < 260) : w.cell? ⟨g, 1 + i, none⟩ = some (.int .u8 (B.bit N i)) := by
  rw [cell_of_row w g (1 + i) _ _ _ h, B.big_get _ _ _ hi]
theorem B.HasB.cell0 {w : World} {g N : Nat} {less : Bool} (h : B.HasB w g less N) : w.cell? ⟨g, 0, none⟩ = some (.bool less) := by
  rw [cell_of_row w g 0 _ _ _ h, B.big_zero]
theorem B.HasB.drew {w : World} {g N : Nat} {less : Bool} (h : B.HasB w g less N) (n : Nat) : B.HasB (w.drewN n) g less N := h
theorem B.HasB.set {w : World} {g N : Nat} {less : Bool} (h : B.HasB w g less N) (p : Addr) (u : Value) (hp : g ≠ p.block) : B.HasB (w.setCell p u) g less N := blk_far h hp u
theorem B.HasB.alloc {w : World} {g N : Nat} {less : Bool} (h : B.HasB w g less N) (o : Obj) : B.HasB (w.alloc o) g less N := blk_alloc h o
theorem B.HasB.below {w w1 : World} {g N : Nat} {less : Bool} (h : B.HasB w g less N) (hb : Below w.heap.size w w1) : B.HasB w1 g less N := blk_below h hb
theorem B.HasB.setR {w : World} {g N : Nat} {less : Bool} (h : B.HasB w g less N) {k : Nat} (cs : Array Value) (hk : g ≠ k) : B.HasB (w.setRow k cs) g less N := (setRow_other w k g cs hk).trans h
theorem B.HasB.row {w : World} {g N : Nat} {less : Bool} (h : B.HasB w g less N) (l2 : Bool) (M : Nat) : B.HasB (w.setRow g (B.big l2 M)) g l2 M := setRow_heap w g _ _ _ _ h
theorem B.HasB.new (w : World) (less : Bool) (N : Nat) : B.HasB (w.alloc (.cells (B.big less N) 75)) w.heap.size less N := blk_new w _
theorem B.HasB.new0 (w : World) : B.HasB (w.alloc (.cells Try.zeroCells75 75)) w.heap.size false 0 := by
  have := blk_new w (.cells Try.zeroCells75 75)
  rw [B.zeroB] at this ⊢
  exact this
theorem B.big_put (less : Bool) (N i : Nat) (u : Value) : (B.big less N).setIfInBounds (1 + i) u = #[.bool less] ++ (B.cells N).setIfInBounds i u := by
  unfold B.big
  rw [Array.setIfInBounds_append_right (by simp)]
  congr 2
  simp
theorem B.HasB.put {w : World} {g S i : Nat} {less : Bool} {v : Int} (h : B.HasB w g less (S % 2 ^ i)) (hi : i < 260) (hv : v = B.bit S i) : B.HasB (w.setCell ⟨g, 1 + i, none⟩ (.int .u8 v)) g less (S % 2 ^ (i + 1)) := by
  have := blk_set h (1 + i) (.int .u8 v)
  rw [B.big_put, B.put S i v hi hv] at this
  exact this
theorem B.big_less (l l2 : Bool) (N : Nat) : (B.big l N).setIfInBounds 0 (.bool l2) = B.big l2 N := by
  unfold B.big
  rw [Array.setIfInBounds_append_left (by simp)]
  rfl
theorem B.HasB.less {w : World} {g N : Nat} {less : Bool} (h : B.HasB w g less N) (l2 : Bool) : B.HasB (w.setCell ⟨g, 0, none⟩ (.bool l2)) g l2 N := by
  have := blk_set h 0 (.bool l2)
  rw [B.big_less] at this
  exact this
theorem B.infoB (less : Bool) (N : Nat) : (Try.prog.info? 75).map (·.size) = some (B.big less N).size := by rw [B.big_size]; kernel_rfl
theorem B.plainB (less : Bool) (N : Nat) : (B.big less N).all (·.oneCell') = true := by
  unfold B.big
  rw [Array.all_append, B.plain]
  simp [Value.oneCell']
theorem B.ixB (g i : Nat) (h : i < 260) (W : World) : (Instr.indexAt 73 (.pointer (some ⟨g, 1, none⟩)) (.int .i64 (i : Int))).run Try.prog W = .ok (.pointer (some ⟨g, 1 + i, none⟩)) W := by
  rw [run_indexAt_array W 73 _ _ _ (by kernel_rfl)]
  have e : Try.prog.arrayLen 73 = 260 := by kernel_rfl
  rw [e, if_pos (by omega)]
  have z : Try.prog.elem 73 = 5 := by kernel_rfl
  rw [z]
  have s : ∀ W, (sizeOf 5).run Try.prog W = .ok 1 W := fun W => by kernel_rfl
  rw [s]
  show Result.ok (Value.pointer (some ((⟨g, 1, none⟩ : Addr).add ((i : Int).toNat * 1)))) W = _
  have q : (⟨g, 1, none⟩ : Addr).add i = ⟨g, 1 + i, none⟩ := by unfold Addr.add; split <;> simp_all
  rw [show (i : Int).toNat * 1 = i by simp, q]
/-- two words as one number, the sign within -/
def B.two (hi lo : Int) : Nat := ((hi % 18446744073709551616) * 18446744073709551616 + lo).toNat
def B.less (hi : Int) : Bool := decide (hi < 0)
def B.abs (hi lo : Int) : Nat := if hi < 0 then 2 ^ 128 - B.two hi lo else B.two hi lo
theorem B.two_lt {hi lo : Int} (l0 : 0 ≤ lo) (l1 : lo < 18446744073709551616) : B.two hi lo < 2 ^ 128 := by
  have e : (2 : Nat) ^ 128 = 340282366920938463463374607431768211456 := by decide
  rw [e]
  unfold B.two
  omega
theorem B.two_val {hi lo : Int} (l0 : 0 ≤ lo) : ((B.two hi lo : Nat) : Int) = hi % 18446744073709551616 * 18446744073709551616 + lo := by unfold B.two; omega
theorem B.bit_val (N i : Nat) : B.bit N i = (N : Int) / 2 ^ i % 2 := by
  unfold B.bit Go.Proofs.Ytohbdjfabghagaa.BigMath.bitN
  push_cast
  rfl
theorem B.two_lo {hi lo : Int} (l0 : 0 ≤ lo) (l1 : lo < 18446744073709551616) {i : Nat} (hi_ : i < 64) : lo / 2 ^ i % 2 = B.bit (B.two hi lo) i := by
  have P : (0 : Int) < 2 ^ i := Int.pow_pos (by decide)
  have s : (18446744073709551616 : Int) = 2 * 2 ^ (63 - i) * 2 ^ i := by
    rw [Int.mul_assoc, ← Int.pow_add, show 63 - i + i = 63 by omega]
    decide
  rw [B.bit_val, B.two_val l0]
  have k : hi % 18446744073709551616 * 18446744073709551616 + lo = lo + (2 * (hi % 18446744073709551616 * 2 ^ (63 - i))) * 2 ^ i := by
    generalize hi % 18446744073709551616 = h
    generalize (2 : Int) ^ (63 - i) = p at *
    generalize (2 : Int) ^ i = q at *
    rw [s]
    grind
  rw [k, Int.add_mul_ediv_right _ _ (by omega)]
  generalize hi % 18446744073709551616 * 2 ^ (63 - i) = z
  omega
theorem B.two_hi {hi lo : Int} (l0 : 0 ≤ lo) (l1 : lo < 18446744073709551616) {i : Nat} (hi0 : 64 ≤ i) (hi1 : i < 128) : hi / 2 ^ (i - 64) % 2 = B.bit (B.two hi lo) i := by
  have P : (0 : Int) < 2 ^ (i - 64) := Int.pow_pos (by decide)
  have s : (18446744073709551616 : Int) = 2 * 2 ^ (127 - i) * 2 ^ (i - 64) := by
    rw [Int.mul_assoc, ← Int.pow_add, show 127 - i + (i - 64) = 63 by omega]
    decide
  have e : (2 : Int) ^ i = 18446744073709551616 * 2 ^ (i - 64) := by
    rw [show (18446744073709551616 : Int) = 2 ^ 64 by decide, ← Int.pow_add, show 64 + (i - 64) = i by omega]
  rw [B.bit_val, B.two_val l0, e, ← Int.ediv_ediv_of_nonneg (by decide)]
  have k : (hi % 18446744073709551616 * 18446744073709551616 + lo) / 18446744073709551616 = hi % 18446744073709551616 := by omega
  rw [k]
  have d0 : hi = hi % 18446744073709551616 + hi / 18446744073709551616 * 18446744073709551616 := by omega
  have d : hi = hi % 18446744073709551616 + (2 * (hi / 18446744073709551616 * 2 ^ (127 - i))) * 2 ^ (i - 64) := by
    have x : hi / 18446744073709551616 * 18446744073709551616 = (2 * (hi / 18446744073709551616 * 2 ^ (127 - i))) * 2 ^ (i - 64) := by
      generalize hi / 18446744073709551616 = h
      generalize (2 : Int) ^ (127 - i) = p at *
      generalize (2 : Int) ^ (i - 64) = q at *
      rw [s]
      grind
    rw [← x]
    exact d0
  generalize hi / 18446744073709551616 * 2 ^ (127 - i) = z at d
  generalize hi % 18446744073709551616 = h at *
  rw [d, Int.add_mul_ediv_right _ _ (by omega)]
  omega
theorem B.and1u {x : Int} (h0 : 0 ≤ x) (h1 : x < 18446744073709551616) : bits .and .u64 x 1 = x % 2 := bits_mask .u64 64 (by decide) (fun n h0 h1 => by
    simp only [IntKind.wrap, IntKind.bits, IntKind.signed]
    simp at h1 ⊢
    omega) 1 (by decide) x h0 (by simp; omega)
theorem B.and1s {x : Int} (h0 : -9223372036854775808 ≤ x) (h1 : x ≤ 9223372036854775807) : bits .and .i64 x 1 = x % 2 := by
  show IntKind.i64.wrap (((BitVec.ofInt 64 x &&& BitVec.ofInt 64 1).toNat : Nat) : Int) = x % 2
  rw [BitVec.toNat_and, BitVec.toNat_ofInt, BitVec.toNat_ofInt]
  have e : ((1 : Int) % ((2 ^ 64 : Nat) : Int)).toNat = 2 ^ 1 - 1 := by decide
  rw [e, Nat.and_two_pow_sub_one_eq_mod]
  simp only [IntKind.wrap, IntKind.bits, IntKind.signed, if_true]
  simp
  omega
/-- a bit of the two words, as the code reads it -/
theorem B.read_lo {hi lo : Int} (l0 : 0 ≤ lo) (l1 : lo < 18446744073709551616) {i : Nat} (h : i < 64) : bits .and .u64 (lo / 2 ^ i) 1 % 256 = B.bit (B.two hi lo) i := by
  have P : (0 : Int) < 2 ^ i := Int.pow_pos (by decide)
  have a := Int.ediv_nonneg l0 (show (0 : Int) ≤ 2 ^ i by omega)
  have b := Int.ediv_le_self (2 ^ i) l0
  rw [B.and1u a (by omega), B.two_lo (hi := hi) l0 l1 h]
  have := B.bit_bd (B.two hi lo) i
  omega
theorem B.read_hi {hi lo : Int} (h0 : -9223372036854775808 ≤ hi) (h1 : hi ≤ 9223372036854775807) (l0 : 0 ≤ lo) (l1 : lo < 18446744073709551616) {i : Nat} (h : 64 ≤ i) (h' : i < 128) : bits .and .i64 (hi / 2 ^ (i - 64)) 1 % 256 = B.bit (B.two hi lo) i := by
  have P : (0 : Int) < 2 ^ (i - 64) := Int.pow_pos (by decide)
  have a : -9223372036854775808 ≤ hi / 2 ^ (i - 64) := by
    rw [Int.le_ediv_iff_mul_le P]
    have : (9223372036854775808 : Int) * 1 ≤ 9223372036854775808 * 2 ^ (i - 64) := Int.mul_le_mul_of_nonneg_left (by omega) (by decide)
    omega
  have b : hi / 2 ^ (i - 64) ≤ 9223372036854775807 := by
    have := Int.ediv_le_ediv P h1
    have := Int.ediv_le_self (a := 9223372036854775807) (2 ^ (i - 64)) (by decide)
    omega
  rw [B.and1s a b, B.two_hi l0 l1 h h']
  have := B.bit_bd (B.two hi lo) i
  omega
theorem B.abs_lt {hi lo : Int} (h0 : -9223372036854775808 ≤ hi) (h1 : hi ≤ 9223372036854775807) (l0 : 0 ≤ lo) (l1 : lo < 18446744073709551616) : B.abs hi lo < 2 ^ 128 := by
  have e : (2 : Nat) ^ 128 = 340282366920938463463374607431768211456 := by decide
  unfold B.abs
  rw [e]
  unfold B.two
  split <;> omega
theorem lombardref02_big.round {U i c : Nat} (hU : U ≤ 2 ^ 128) (hi : i < 128) (hc : c = Go.Proofs.Ytohbdjfabghagaa.BigMath.borrow (2 ^ 128) U i) :
    bits .and .u8 ((B.bit U i + (c : Int)) % 256) 1 = B.bit (2 ^ 128 - U) i ∧ ((0 : Int) < (B.bit U i + (c : Int)) % 256 → Go.Proofs.Ytohbdjfabghagaa.BigMath.borrow (2 ^ 128) U (i + 1) = 1) ∧ (¬(0 : Int) < (B.bit U i + (c : Int)) % 256 → Go.Proofs.Ytohbdjfabghagaa.BigMath.borrow (2 ^ 128) U (i + 1) = 0) := by
  obtain ⟨s1, s2⟩ := Go.Proofs.Ytohbdjfabghagaa.BigMath.minus_step hU i
  have z : Go.Proofs.Ytohbdjfabghagaa.BigMath.bitN (2 ^ 128) i = 0 := by
    have := Go.Proofs.Ytohbdjfabghagaa.BigMath.bitN_mul 1 128 i
    rw [if_neg (by omega), Nat.one_mul] at this
    exact this
  rw [z] at s1 s2
  have b1 := Go.Proofs.Ytohbdjfabghagaa.BigMath.bitN_lt U i
  have b2 := Go.Proofs.Ytohbdjfabghagaa.BigMath.borrow_lt (2 ^ 128) U i
  subst hc
  generalize Go.Proofs.Ytohbdjfabghagaa.BigMath.borrow (2 ^ 128) U i = c at *
  generalize Go.Proofs.Ytohbdjfabghagaa.BigMath.borrow (2 ^ 128) U (i + 1) = c' at *
  unfold B.bit
  rw [s1, B.and1 (by omega) (by omega)]
  generalize Go.Proofs.Ytohbdjfabghagaa.BigMath.bitN U i = u at *
  clear hU
  omega
set_option maxRecDepth 100000 in
set_option maxHeartbeats 8000000 in
theorem lombardref02_big.calls (hi lo : Int) (h0 : -9223372036854775808 ≤ hi) (h1 : hi ≤ 9223372036854775807) (l0 : 0 ≤ lo) (l1 : lo < 18446744073709551616) (w : World) : Calls Try.prog 52 #[.agg #[.int .i64 hi, .int .u64 lo]] w fun e w' => e = .returned (.agg (B.big (B.less hi) (B.abs hi lo))) ∧ Below w.heap.size w w' := by
  obtain ⟨U, hU⟩ : ∃ U : Nat, U = B.two hi lo := ⟨_, rfl⟩
  obtain ⟨D, hD⟩ : ∃ D : Nat, D = B.abs hi lo := ⟨_, rfl⟩
  rw [← hD]
  obtain ⟨m, hm⟩ : ∃ m : Nat, m = 128 := ⟨_, rfl⟩
  have dm : D % 2 ^ m = D := by rw [hm, hD]; exact Nat.mod_eq_of_lt (B.abs_lt h0 h1 l0 l1)
  have DM := Aside0.mk dm
  have HM := Aside0.mk hm
  have rl : ∀ i : Nat, i < 64 → bits .and .u64 (lo / 2 ^ i) 1 % 256 = B.bit U i := fun i h => by rw [hU]; exact B.read_lo l0 l1 h
  have rh : ∀ i : Nat, 64 ≤ i → i < 128 → bits .and .i64 (hi / 2 ^ (i - 64)) 1 % 256 = B.bit U i := fun i h h' => by rw [hU]; exact B.read_hi h0 h1 l0 l1 h h'
  have RL := Aside0.mk rl
  have RH := Aside0.mk rh
  have du : (hi < 0 → D = 2 ^ 128 - U) ∧ (¬hi < 0 → D = U) ∧ U ≤ 2 ^ 128 := by
    refine ⟨fun h => ?_, fun h => ?_, ?_⟩
    · rw [hD, hU]; unfold B.abs; rw [if_pos h]
    · rw [hD, hU]; unfold B.abs; rw [if_neg h]
    · rw [hU]; exact Nat.le_of_lt (B.two_lt l0 l1)
  have DU := Aside0.mk du
  clear hU hD dm hm rl rh du
  go_enter Try.func52, Try.ntmps52
  go_upto_region 3 with (fail)
  rw [show Try.zeroCells75.setIfInBounds 0 (Value.bool (decide (hi < 0))) = B.big (B.less hi) 0 by rw [B.zeroB, B.big_less]; rfl]
  go_wp2
  go_loopg [4, 5] 128 (fun kq v4 v5 w' => ∃ (c i : Nat), v4 = .int .u8 c ∧ v5 = .int .i64 i ∧ Aside0 (i + kq = 128) ∧ Aside0 (c < 2) ∧ Aside0 (c = if hi < 0 then Go.Proofs.Ytohbdjfabghagaa.BigMath.borrow (2 ^ 128) U i else 0) ∧ Aside0 (w'.heap[w.heap.size]? = some (.cells #[.int .i64 hi, .int .u64 lo] 32 (0, 0))) ∧ Aside0 (B.HasB w' (w.heap.size + 1) false 0) ∧ Aside0 (B.HasB w' (w.heap.size + 1 + 1) (B.less hi) (D % 2 ^ i)) ∧ Aside0 (Below w.heap.size w w'))
  case atStart =>
    have a1 := blk_new w (.cells #[.int .i64 hi, .int .u64 lo] 32)
    have a2 := B.HasB.new0 (w.alloc (.cells #[.int .i64 hi, .int .u64 lo] 32))
    have a3 := B.HasB.new ((w.alloc (.cells #[.int .i64 hi, .int .u64 lo] 32)).alloc (.cells Try.zeroCells75 75)) (B.less hi) 0
    simp only [World.size_alloc] at a2 a3
    refine ⟨0, 0, rfl, rfl, ⟨rfl⟩, ⟨by omega⟩, ⟨?_⟩, ⟨blk_alloc (blk_alloc a1 _) _⟩, ⟨a2.alloc _⟩, ⟨?_⟩, ⟨below_alloc (below_alloc (below_alloc (Below.refl _ w) _) _) _⟩⟩
    · rw [Go.Proofs.Ytohbdjfabghagaa.BigMath.borrow_zero]
      split <;> rfl
    · rw [Nat.pow_zero, Nat.mod_one]
      exact a3
  case round =>
    obtain ⟨c, i, rfl, rfl, hik, hc2, hc, hT, hR, hX, hW⟩ := hrel
    cases gk with
    | zero =>
      have q1 : decide ((i : Int) < 128) = false := decide_eq_false (by have := hik.out; omega)
      have e : i = m := by have := hik.out; have := HM.out; omega
      have hX' : B.HasB wr (w.heap.size + 1 + 1) (B.less hi) D := by have := hX.out; rw [e, DM.out] at this; exact this
      clear hik e hX
      go_wp2_with (first | (refine wpList_load_row rfl 75 (.tmp 3) rfl (w.heap.size + 1 + 1) rfl 75 (B.big (B.less hi) D) (0, 0) _ hX' Try.underlying75 rfl (B.infoB _ _) ?_) | (refine wpList_store_row rfl 75 (.tmp 2) (.tmp 50) rfl (w.heap.size + 1) (B.big (B.less hi) D) rfl rfl 75 _ hR.out (B.infoB _ _) (by rw [B.big_size, B.big_size]) (B.plainB _ _) ?_))
      refine bodyPost_ret (results_cell_row (by rfl) _ _ (w.heap.size + 1) 75 (B.big (B.less hi) D) (0, 0) _ (by rfl) (hR.out.row _ _) Try.underlying75 rfl (B.infoB _ _)) rfl ?_
      exact ⟨rfl, B.below_row hW.out (by omega) _⟩
    | succ k1 =>
      have i128 : i < 128 := by have := hik.out; omega
      have q1 : decide ((i : Int) < 128) = true := decide_eq_true (by omega)
      have fT0 := blk_cell hT.out 0
      have fT1 := blk_cell hT.out 1
      have xX := B.ixB (w.heap.size + 1 + 1) i (by omega)
      have cX := hX.out.cell (i := i) (by omega)
      have fX := blk_frozen hX.out (1 + i)
      have c0 := hX.out.cell0
      have bb := B.bit_bd U i
      by_cases neg : hi < 0
      · have L : B.less hi = true := decide_eq_true neg
        rw [L] at c0
        obtain ⟨r1, r2, r3⟩ := lombardref02_big.round DU.out.2.2 i128 (show c = _ by have := hc.out; rw [if_pos neg] at this; exact this)
        have d := DU.out.1 neg
        rw [← d] at r1
        have NX := Aside0.mk (hX.out.put (by omega) r1)
        have hcn : ∀ x, Go.Proofs.Ytohbdjfabghagaa.BigMath.borrow (2 ^ 128) U (i + 1) = x → x = if hi < 0 then Go.Proofs.Ytohbdjfabghagaa.BigMath.borrow (2 ^ 128) U (i + 1) else 0 := fun x h => by rw [if_pos neg, h]
        have R2 := Aside0.mk r2
        have R3 := Aside0.mk r3
        have HN := Aside0.mk hcn
        clear r1 r2 r3 d hcn L neg
        by_cases ci : i < 64
        · have q2 : decide ((i : Int) < 64) = true := decide_eq_true (by omega)
          go_upto_region 11 with (fail)
          rw [RL.out i (by omega)]
          by_cases pn : (0 : Int) < (B.bit U i + (c : Int)) % 256
          · have p1 : decide ((0 : Int) < (B.bit U i + (c : Int)) % 256) = true := decide_eq_true pn
            have nb := HN.out 1 (R2.out pn)
            have NB := Aside0.mk nb
            clear nb pn
            go_wp2
            go_roundg k1
            case measure => omega
            case rel => exact ⟨1, i + 1, rfl, by first | rfl | (rw [B.w1 (by omega) (by omega)]; rfl), ⟨by have := hik.out; omega⟩, ⟨by omega⟩, ⟨NB.out⟩, ⟨blk_far hT.out (by show w.heap.size ≠ w.heap.size + 1 + 1; omega) _⟩, ⟨hR.out.set _ _ (by show w.heap.size + 1 ≠ w.heap.size + 1 + 1; omega)⟩, NX, ⟨hW.out.setCell (by show w.heap.size ≤ w.heap.size + 1 + 1; omega) _⟩⟩
          · have p1 : decide ((0 : Int) < (B.bit U i + (c : Int)) % 256) = false := decide_eq_false pn
            have nb := HN.out 0 (R3.out pn)
            have NB := Aside0.mk nb
            clear nb pn
            go_wp2
            go_roundg k1
            case measure => omega
            case rel => exact ⟨0, i + 1, rfl, by first | rfl | (rw [B.w1 (by omega) (by omega)]; rfl), ⟨by have := hik.out; omega⟩, ⟨by omega⟩, ⟨NB.out⟩, ⟨blk_far hT.out (by show w.heap.size ≠ w.heap.size + 1 + 1; omega) _⟩, ⟨hR.out.set _ _ (by show w.heap.size + 1 ≠ w.heap.size + 1 + 1; omega)⟩, NX, ⟨hW.out.setCell (by show w.heap.size ≤ w.heap.size + 1 + 1; omega) _⟩⟩
        · have q2 : decide ((i : Int) < 64) = false := decide_eq_false (by omega)
          go_upto_region 11 with (fail)
          rw [RH.out i (by omega) (by omega)]
          by_cases pn : (0 : Int) < (B.bit U i + (c : Int)) % 256
          · have p1 : decide ((0 : Int) < (B.bit U i + (c : Int)) % 256) = true := decide_eq_true pn
            have nb := HN.out 1 (R2.out pn)
            have NB := Aside0.mk nb
            clear nb pn
            go_wp2
            go_roundg k1
            case measure => omega
            case rel => exact ⟨1, i + 1, rfl, by first | rfl | (rw [B.w1 (by omega) (by omega)]; rfl), ⟨by have := hik.out; omega⟩, ⟨by omega⟩, ⟨NB.out⟩, ⟨blk_far hT.out (by show w.heap.size ≠ w.heap.size + 1 + 1; omega) _⟩, ⟨hR.out.set _ _ (by show w.heap.size + 1 ≠ w.heap.size + 1 + 1; omega)⟩, NX, ⟨hW.out.setCell (by show w.heap.size ≤ w.heap.size + 1 + 1; omega) _⟩⟩
          · have p1 : decide ((0 : Int) < (B.bit U i + (c : Int)) % 256) = false := decide_eq_false pn
            have nb := HN.out 0 (R3.out pn)
            have NB := Aside0.mk nb
            clear nb pn
            go_wp2
            go_roundg k1
            case measure => omega
            case rel => exact ⟨0, i + 1, rfl, by first | rfl | (rw [B.w1 (by omega) (by omega)]; rfl), ⟨by have := hik.out; omega⟩, ⟨by omega⟩, ⟨NB.out⟩, ⟨blk_far hT.out (by show w.heap.size ≠ w.heap.size + 1 + 1; omega) _⟩, ⟨hR.out.set _ _ (by show w.heap.size + 1 ≠ w.heap.size + 1 + 1; omega)⟩, NX, ⟨hW.out.setCell (by show w.heap.size ≤ w.heap.size + 1 + 1; omega) _⟩⟩
      · have L : B.less hi = false := decide_eq_false neg
        rw [L] at c0
        have d := DU.out.2.1 (by omega)
        have NX := Aside0.mk (hX.out.put (v := B.bit U i) (by omega) (by rw [d]))
        have z : c = 0 := by have := hc.out; rw [if_neg neg] at this; exact this
        have hcn : 0 = if hi < 0 then Go.Proofs.Ytohbdjfabghagaa.BigMath.borrow (2 ^ 128) U (i + 1) else 0 := by rw [if_neg neg]
        have HN := Aside0.mk hcn
        subst z
        clear d hcn L neg
        by_cases ci : i < 64
        · have q2 : decide ((i : Int) < 64) = true := decide_eq_true (by omega)
          go_upto_region 11 with (fail)
          rw [RL.out i (by omega)]
          go_wp2
          go_roundg k1
          case measure => omega
          case rel => exact ⟨0, i + 1, rfl, by first | rfl | (rw [B.w1 (by omega) (by omega)]; rfl), ⟨by have := hik.out; omega⟩, ⟨by omega⟩, ⟨HN.out⟩, ⟨blk_far hT.out (by show w.heap.size ≠ w.heap.size + 1 + 1; omega) _⟩, ⟨hR.out.set _ _ (by show w.heap.size + 1 ≠ w.heap.size + 1 + 1; omega)⟩, NX, ⟨hW.out.setCell (by show w.heap.size ≤ w.heap.size + 1 + 1; omega) _⟩⟩
        · have q2 : decide ((i : Int) < 64) = false := decide_eq_false (by omega)
          go_upto_region 11 with (fail)
          rw [RH.out i (by omega) (by omega)]
          go_wp2
          go_roundg k1
          case measure => omega
          case rel => exact ⟨0, i + 1, rfl, by first | rfl | (rw [B.w1 (by omega) (by omega)]; rfl), ⟨by have := hik.out; omega⟩, ⟨by omega⟩, ⟨HN.out⟩, ⟨blk_far hT.out (by show w.heap.size ≠ w.heap.size + 1 + 1; omega) _⟩, ⟨hR.out.set _ _ (by show w.heap.size + 1 ≠ w.heap.size + 1 + 1; omega)⟩, NX, ⟨hW.out.setCell (by show w.heap.size ≤ w.heap.size + 1 + 1; omega) _⟩⟩


end Go.Proofs.Ytohbdjfabghagaa.S
