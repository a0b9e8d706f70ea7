/- Texts of the statement SchedLeastSaid, laid together. Conditions: none beyond those that each theorem names. -/
import Derived.Test.YtchpeobenlnemaaSx0
import Derived.Test.YtchpeobenlnemaaSxMathBitsMul64
import Derived.Laws.CopyOwn
import Derived.Deep.DeepMust
import Derived.OrdersHeld
import Derived.Test.YtchpeobenlnemaaMSchedLeast2
import Derived.Test.YtchpeobenlnemaaSxRateInterest
import Derived.Test.YtchpeobenlnemaaSxSchedLevel
import Derived.Test.YtchpeobenlnemaaSxMoneySplit
import Derived.LoopTactic
section
namespace Go.Proofs.Ytchpeobenlnemaa.S
open Go.RowKit Go.Proofs.YtchpeobenlnemaaW.PrintWords Go.Proofs.YtchpeobenlnemaaW.PrintLast Go.Proofs.YtchpeobenlnemaaW.PrintMore
attribute [local go_sem] max2_int min2_int max_two min_two max_three min_three max_four min_four   -- for this text's walks alone
attribute [local go_sem] Go.Proofs.Ytchpeobenlnemaa.XWalk.cell2
set_option linter.unusedVariables false
set_option linter.unusedSimpArgs false

/-! ### lombardref02_Of: function 66 -/
def lombardref02_Of.f (a0 : Int) : Option (Int × Int) := if a0 < 0 then (some ((-1), IntKind.u64.wrap (a0))) else (some (0, IntKind.u64.wrap (a0)))
end Go.Proofs.Ytchpeobenlnemaa.S
end

section
namespace Go.Proofs.Ytchpeobenlnemaa.S
open Go.RowKit Go.Proofs.YtchpeobenlnemaaW.PrintWords Go.Proofs.YtchpeobenlnemaaW.PrintLast Go.Proofs.YtchpeobenlnemaaW.PrintMore
attribute [local go_sem] max2_int min2_int max_two min_two max_three min_three max_four min_four   -- for this text's walks alone
attribute [local go_sem] Go.Proofs.Ytchpeobenlnemaa.XWalk.cell2
set_option linter.unusedVariables false
set_option linter.unusedSimpArgs false

/-! ### lombardref02_size: function 68 -/
-- IMPORT BigMath
/-- A row of 260 bits, as a value. -/
def B.bit (N i : Nat) : Int := ((Go.Proofs.Ytchpeobenlnemaa.BigMath.bitN N i : Nat) : Int)
def B.cells (N : Nat) : Array Value := Array.ofFn (n := 260) fun i => .int .u8 (B.bit N i.val)
theorem B.size (N : Nat) : (B.cells N).size = 260 := by unfold B.cells; exact Array.size_ofFn
theorem B.get (N i : Nat) (h : i < 260) : (B.cells N)[i]? = some (.int .u8 (B.bit N i)) := by
  unfold B.cells
  rw [Array.getElem?_ofFn, dif_pos h]
theorem B.out (N i : Nat) (h : ¬i < 260) : (B.cells N)[i]? = none := Array.getElem?_eq_none (by rw [B.size]; omega)
/-- rows that are alike bit by bit -/
theorem B.ext (cs : Array Value) (N : Nat) (hs : cs.size = 260) (h : ∀ i, i < 260 → cs[i]? = some (.int .u8 (B.bit N i))) : cs = B.cells N := by
  apply Array.ext_getElem?
  intro i
  by_cases c : i < 260
  · rw [h i c, B.get N i c]
  · rw [B.out N i c]
    exact Array.getElem?_eq_none (by omega)
set_option maxRecDepth 100000 in
theorem B.zero : Try.zeroCells91 = B.cells 0 := by
  have e : Try.zeroCells91 = Array.replicate 260 (.int .u8 0) := by first | rfl | kernel_rfl
  rw [e]
  refine B.ext _ _ (by simp) fun i h => ?_
  rw [Array.getElem?_replicate, if_pos h]
  unfold B.bit
  rw [Go.Proofs.Ytchpeobenlnemaa.BigMath.bitN_zero]
  rfl
/-- one bit written -/
theorem B.put (S i : Nat) (v : Int) (h : i < 260) (hv : v = B.bit S i) : (B.cells (S % 2 ^ i)).setIfInBounds i (.int .u8 v) = B.cells (S % 2 ^ (i + 1)) := by
  refine B.ext _ _ (by rw [Array.size_setIfInBounds, B.size]) fun j hj => ?_
  rw [Array.getElem?_setIfInBounds]
  by_cases c : i = j
  · subst c
    rw [if_pos rfl, if_pos (by rw [B.size]; exact h), hv]
    unfold B.bit
    rw [Go.Proofs.Ytchpeobenlnemaa.BigMath.bitN_mod, if_pos (by omega)]
  · rw [if_neg c, B.get _ _ hj]
    unfold B.bit
    rw [Go.Proofs.Ytchpeobenlnemaa.BigMath.bitN_mod, Go.Proofs.Ytchpeobenlnemaa.BigMath.bitN_mod]
    by_cases d : j < i
    · rw [if_pos d, if_pos (by omega)]
    · rw [if_neg d, if_neg (by omega)]
theorem B.plain (N : Nat) : (B.cells N).all (·.oneCell') = true := by
  rw [Array.all_eq_true]
  intro i hi
  simp [B.cells, Value.oneCell']
theorem B.ix (g i : Nat) (h : i < 260) (W : World) : (Instr.indexAt 91 (.pointer (some ⟨g, 0, none⟩)) (.int .i64 (i : Int))).run Try.prog W = .ok (.pointer (some ⟨g, i, none⟩)) W := by
  rw [run_indexAt_array W 91 _ _ _ (by kernel_rfl)]
  have e : Try.prog.arrayLen 91 = 260 := by kernel_rfl
  rw [e, if_pos (by omega)]
  have z : Try.prog.elem 91 = 5 := by kernel_rfl
  rw [z]
  have s : ∀ W, (sizeOf 5).run Try.prog W = .ok 1 W := fun W => by kernel_rfl
  rw [s]
  simp [add_plain]
/-- a block that holds a row's bits -/
def B.Has (w : World) (g N : Nat) : Prop := w.heap[g]? = some (.cells (B.cells N) 91 (0, 0))
theorem B.Has.cell {w : World} {g N : Nat} (h : B.Has w g N) {i : Nat} (hi : i < 260) : w.cell? ⟨g, i, none⟩ = some (.int .u8 (B.bit N i)) := by
  rw [cell_of_row w g i _ _ _ h, B.get N i hi]
theorem B.Has.drew {w : World} {g N : Nat} (h : B.Has w g N) (n : Nat) : B.Has (w.drewN n) g N := h
theorem B.Has.set {w : World} {g N : Nat} (h : B.Has w g N) (p : Addr) (u : Value) (hp : g ≠ p.block) : B.Has (w.setCell p u) g N := blk_far h hp u
theorem B.Has.alloc {w : World} {g N : Nat} (h : B.Has w g N) (o : Obj) : B.Has (w.alloc o) g N := blk_alloc h o
theorem B.Has.below {w w1 : World} {g N : Nat} (h : B.Has w g N) (hb : Below w.heap.size w w1) : B.Has w1 g N := blk_below h hb
theorem B.Has.new (w : World) (N : Nat) : B.Has (w.alloc (.cells (B.cells N) 91)) w.heap.size N := blk_new w _
theorem B.Has.row {w : World} {g N : Nat} (h : B.Has w g N) (M : Nat) : B.Has (w.setRow g (B.cells M)) g M := setRow_heap w g _ _ _ _ h
theorem B.info : (Try.prog.info? 91).map (·.size) = some 260 := by kernel_rfl
theorem B.under : Try.prog.underlying 91 = some (.array 260 5) := by kernel_rfl
theorem B.Has.put {w : World} {g S i : Nat} {v : Int} (h : B.Has w g (S % 2 ^ i)) (hi : i < 260) (hv : v = B.bit S i) : B.Has (w.setCell ⟨g, i, none⟩ (.int .u8 v)) g (S % 2 ^ (i + 1)) := by
  have := blk_set h i (.int .u8 v)
  rw [B.put S i v hi hv] at this
  exact this
theorem B.infoN (N : Nat) : (Try.prog.info? 91).map (·.size) = some (B.cells N).size := by rw [B.size]; exact B.info
theorem B.and1 {x : Int} (h0 : 0 ≤ x) (h1 : x < 256) : bits .and .u8 x 1 = x % 2 := bits_mask .u8 8 (by decide) wraps_u8 1 (by decide) x h0 h1
theorem B.w1 {i : Int} (h0 : 0 ≤ i) (h1 : i ≤ 1000) : wrap64 (i + 1) = i + 1 := by unfold wrap64; omega
theorem B.w0 {i : Int} (h0 : 0 ≤ i) (h1 : i ≤ 1000) : wrap64 (i - 1) = i - 1 := by unfold wrap64; omega
def lombardref02_size.ord (a b : Nat) : Int := if a < b then -1 else if b < a then 1 else 0
end Go.Proofs.Ytchpeobenlnemaa.S
end

section
namespace Go.Proofs.Ytchpeobenlnemaa.S
open Go.RowKit Go.Proofs.YtchpeobenlnemaaW.PrintWords Go.Proofs.YtchpeobenlnemaaW.PrintLast Go.Proofs.YtchpeobenlnemaaW.PrintMore
attribute [local go_sem] max2_int min2_int max_two min_two max_three min_three max_four min_four   -- for this text's walks alone
attribute [local go_sem] Go.Proofs.Ytchpeobenlnemaa.XWalk.cell2
set_option linter.unusedVariables false
set_option linter.unusedSimpArgs false

/-! ### lombardref02_plus: function 69 -/
end Go.Proofs.Ytchpeobenlnemaa.S
end

section
namespace Go.Proofs.Ytchpeobenlnemaa.S
open Go.RowKit Go.Proofs.YtchpeobenlnemaaW.PrintWords Go.Proofs.YtchpeobenlnemaaW.PrintLast Go.Proofs.YtchpeobenlnemaaW.PrintMore
attribute [local go_sem] max2_int min2_int max_two min_two max_three min_three max_four min_four   -- for this text's walks alone
attribute [local go_sem] Go.Proofs.Ytchpeobenlnemaa.XWalk.cell2
set_option linter.unusedVariables false
set_option linter.unusedSimpArgs false

/-! ### lombardref02_big: function 65 -/
-- IMPORT BigMath
/-- A sign and a row of bits, as a value. -/
def B.big (less : Bool) (N : Nat) : Array Value := #[.bool less] ++ B.cells N
theorem B.big_get (less : Bool) (N i : Nat) (h : i < 260) : (B.big less N)[1 + i]? = some (.int .u8 (B.bit N i)) := by
  unfold B.big
  rw [Array.getElem?_append_right (by show 1 ≤ 1 + i; omega)]
  show (B.cells N)[1 + i - 1]? = _
  rw [show 1 + i - 1 = i by omega, B.get N i h]
def B.HasB (w : World) (g : Nat) (less : Bool) (N : Nat) : Prop := w.heap[g]? = some (.cells (B.big less N) 93 (0, 0))
theorem B.HasB.cell {w : World} {g N : Nat} {less : Bool} (h : B.HasB w g less N) {i : Nat} (hi : i < 260) : w.cell? ⟨g, 1 + i, none⟩ = some (.int .u8 (B.bit N i)) := by
  rw [cell_of_row w g (1 + i) _ _ _ h, B.big_get _ _ _ hi]
theorem B.HasB.drew {w : World} {g N : Nat} {less : Bool} (h : B.HasB w g less N) (n : Nat) : B.HasB (w.drewN n) g less N := h
theorem B.HasB.set {w : World} {g N : Nat} {less : Bool} (h : B.HasB w g less N) (p : Addr) (u : Value) (hp : g ≠ p.block) : B.HasB (w.setCell p u) g less N := blk_far h hp u
theorem B.HasB.alloc {w : World} {g N : Nat} {less : Bool} (h : B.HasB w g less N) (o : Obj) : B.HasB (w.alloc o) g less N := blk_alloc h o
theorem B.HasB.below {w w1 : World} {g N : Nat} {less : Bool} (h : B.HasB w g less N) (hb : Below w.heap.size w w1) : B.HasB w1 g less N := blk_below h hb
theorem B.HasB.row {w : World} {g N : Nat} {less : Bool} (h : B.HasB w g less N) (l2 : Bool) (M : Nat) : B.HasB (w.setRow g (B.big l2 M)) g l2 M := setRow_heap w g _ _ _ _ h
theorem B.HasB.new (w : World) (less : Bool) (N : Nat) : B.HasB (w.alloc (.cells (B.big less N) 93)) w.heap.size less N := blk_new w _
theorem B.big_put (less : Bool) (N i : Nat) (u : Value) : (B.big less N).setIfInBounds (1 + i) u = #[.bool less] ++ (B.cells N).setIfInBounds i u := by
  unfold B.big
  rw [Array.setIfInBounds_append_right (by simp)]
  congr 2
  simp
theorem B.HasB.put {w : World} {g S i : Nat} {less : Bool} {v : Int} (h : B.HasB w g less (S % 2 ^ i)) (hi : i < 260) (hv : v = B.bit S i) : B.HasB (w.setCell ⟨g, 1 + i, none⟩ (.int .u8 v)) g less (S % 2 ^ (i + 1)) := by
  have := blk_set h (1 + i) (.int .u8 v)
  rw [B.big_put, B.put S i v hi hv] at this
  exact this
theorem B.big_less (l l2 : Bool) (N : Nat) : (B.big l N).setIfInBounds 0 (.bool l2) = B.big l2 N := by
  unfold B.big
  rw [Array.setIfInBounds_append_left (by simp)]
  rfl
theorem B.HasB.less {w : World} {g N : Nat} {less : Bool} (h : B.HasB w g less N) (l2 : Bool) : B.HasB (w.setCell ⟨g, 0, none⟩ (.bool l2)) g l2 N := by
  have := blk_set h 0 (.bool l2)
  rw [B.big_less] at this
  exact this
/-- two words as one number, the sign within -/
def B.two (hi lo : Int) : Nat := ((hi % 18446744073709551616) * 18446744073709551616 + lo).toNat
def B.less (hi : Int) : Bool := decide (hi < 0)
def B.abs (hi lo : Int) : Nat := if hi < 0 then 2 ^ 128 - B.two hi lo else B.two hi lo
end Go.Proofs.Ytchpeobenlnemaa.S
end

section
namespace Go.Proofs.Ytchpeobenlnemaa.S
open Go.RowKit Go.Proofs.YtchpeobenlnemaaW.PrintWords Go.Proofs.YtchpeobenlnemaaW.PrintLast Go.Proofs.YtchpeobenlnemaaW.PrintMore
attribute [local go_sem] max2_int min2_int max_two min_two max_three min_three max_four min_four   -- for this text's walks alone
attribute [local go_sem] Go.Proofs.Ytchpeobenlnemaa.XWalk.cell2
set_option linter.unusedVariables false
set_option linter.unusedSimpArgs false

/-! ### lombardref02_small: function 70 -/
theorem B.gate {P : Program} {ops : Array Oper} {rest : List Oper} {o : Oper} {a : Act} {w : World} {Q : Exit → Act → World → Prop} (h : wpList P ops Q (o :: rest) a w) : wpList P ops Q (o :: rest) a w := h
def lombardref02_small.v (less : Bool) (N : Nat) : Int := if 2 ^ 63 < N ∨ N = 2 ^ 63 ∧ less = false then 0 else if less = true then -(N : Int) else N
def lombardref02_small.ok (less : Bool) (N : Nat) : Bool := if 2 ^ 63 < N ∨ N = 2 ^ 63 ∧ less = false then false else true
end Go.Proofs.Ytchpeobenlnemaa.S
end

section
namespace Go.Proofs.Ytchpeobenlnemaa.S
open Go.RowKit Go.Proofs.YtchpeobenlnemaaW.PrintWords Go.Proofs.YtchpeobenlnemaaW.PrintLast Go.Proofs.YtchpeobenlnemaaW.PrintMore
attribute [local go_sem] max2_int min2_int max_two min_two max_three min_three max_four min_four   -- for this text's walks alone
attribute [local go_sem] Go.Proofs.Ytchpeobenlnemaa.XWalk.cell2
set_option linter.unusedVariables false
set_option linter.unusedSimpArgs false

/-! ### lombardref02_times: function 60 -/
-- IMPORT BigMath
theorem B.HasB.lt {w : World} {g N : Nat} {less : Bool} (h : B.HasB w g less N) : g < w.heap.size := (Array.getElem?_eq_some_iff.1 h).1
def B.ofHi (a : Int) : Int := if a < 0 then -1 else 0
def B.ofLo (a : Int) : Int := IntKind.u64.wrap a
end Go.Proofs.Ytchpeobenlnemaa.S
end

section
namespace Go.Proofs.Ytchpeobenlnemaa.S
open Go.RowKit Go.Proofs.YtchpeobenlnemaaW.PrintWords Go.Proofs.YtchpeobenlnemaaW.PrintLast Go.Proofs.YtchpeobenlnemaaW.PrintMore
attribute [local go_sem] max2_int min2_int max_two min_two max_three min_three max_four min_four   -- for this text's walks alone
attribute [local go_sem] Go.Proofs.Ytchpeobenlnemaa.XWalk.cell2
set_option linter.unusedVariables false
set_option linter.unusedSimpArgs false

/-! ### lombardref02_minus: function 72 -/
end Go.Proofs.Ytchpeobenlnemaa.S
end

section
namespace Go.Proofs.Ytchpeobenlnemaa.S
open Go.RowKit Go.Proofs.YtchpeobenlnemaaW.PrintWords Go.Proofs.YtchpeobenlnemaaW.PrintLast Go.Proofs.YtchpeobenlnemaaW.PrintMore
attribute [local go_sem] max2_int min2_int max_two min_two max_three min_three max_four min_four   -- for this text's walks alone
attribute [local go_sem] Go.Proofs.Ytchpeobenlnemaa.XWalk.cell2
set_option linter.unusedVariables false
set_option linter.unusedSimpArgs false

/-! ### lombardref02_quo: function 67 -/
-- IMPORT BigMath
/-- bits that are being moved one up: those above k are moved -/
def B.sh (R k : Nat) : Array Value := Array.ofFn (n := 260) fun j => .int .u8 (if k < j.val then B.bit R (j.val - 1) else B.bit R j.val)
def B.HasC (w : World) (g : Nat) (cs : Array Value) : Prop := w.heap[g]? = some (.cells cs 91 (0, 0))
theorem B.HasC.cell {w : World} {g : Nat} {cs : Array Value} (h : B.HasC w g cs) (i : Nat) : w.cell? ⟨g, i, none⟩ = cs[i]? := cell_of_row w g i _ _ _ h
theorem B.HasC.put {w : World} {g : Nat} {cs : Array Value} (h : B.HasC w g cs) (i : Nat) (u : Value) : B.HasC (w.setCell ⟨g, i, none⟩ u) g (cs.setIfInBounds i u) := blk_set h i u
theorem B.load {o : Oper} {ρ : Operand → Value} {W : World} {g N : Nat} (x : Operand) (ho : o.op = .load 91 x) (hx : ρ x = .pointer (some ⟨g, 0, none⟩)) (h : B.HasC W g (B.cells N)) : (execOp ρ o).run Try.prog W = .ok (.value (.agg (B.cells N))) W := by
  have r := run_loadVar_row (P := Try.prog) W g 91 91 (B.cells N) (0, 0) _ h B.under rfl (B.infoN _)
  unfold execOp
  simp only [ho, hx, Instr.loadAt, Instr.sureAddr, Sem.run_bind, Sem.run_pure, Result.andThen_ok, r]
theorem B.HasC.row {w : World} {g : Nat} {cs : Array Value} (h : B.HasC w g cs) (cs' : Array Value) : B.HasC (w.setRow g cs') g cs' := setRow_heap w g _ _ _ _ h
/-- a bit of the quotient -/
theorem B.Has.one {w : World} {g Q i : Nat} (h : B.Has w g (Q / 2 ^ (i + 1) * 2 ^ (i + 1))) (hi : i < 260) (hq : Go.Proofs.Ytchpeobenlnemaa.BigMath.bitN Q i = 1) : B.Has (w.setCell ⟨g, i, none⟩ (.int .u8 1)) g (Q / 2 ^ i * 2 ^ i) := by
  have := blk_set h i (.int .u8 1)
  have e : (B.cells (Q / 2 ^ (i + 1) * 2 ^ (i + 1))).setIfInBounds i (.int .u8 1) = B.cells (Q / 2 ^ i * 2 ^ i) := by
    refine B.ext _ _ (by rw [Array.size_setIfInBounds, B.size]) fun j hj => ?_
    rw [Array.getElem?_setIfInBounds]
    by_cases c : i = j
    · subst c
      rw [if_pos rfl, if_pos (by rw [B.size]; exact hi)]
      unfold B.bit
      rw [Go.Proofs.Ytchpeobenlnemaa.BigMath.bitN_high, if_pos (by omega), hq]
      rfl
    · rw [if_neg c, B.get _ _ hj]
      unfold B.bit
      rw [Go.Proofs.Ytchpeobenlnemaa.BigMath.bitN_high, Go.Proofs.Ytchpeobenlnemaa.BigMath.bitN_high]
      by_cases d : i + 1 ≤ j
      · rw [if_pos d, if_pos (by omega)]
      · rw [if_neg d, if_neg (by omega)]
  rw [e] at this
  exact this
end Go.Proofs.Ytchpeobenlnemaa.S
end

section
namespace Go.Proofs.Ytchpeobenlnemaa.S
open Go.RowKit Go.Proofs.YtchpeobenlnemaaW.PrintWords Go.Proofs.YtchpeobenlnemaaW.PrintLast Go.Proofs.YtchpeobenlnemaaW.PrintMore
attribute [local go_sem] max2_int min2_int max_two min_two max_three min_three max_four min_four   -- for this text's walks alone
attribute [local go_sem] Go.Proofs.Ytchpeobenlnemaa.XWalk.cell2
set_option linter.unusedVariables false
set_option linter.unusedSimpArgs false

/-! ### lombardref02_div: function 59 -/
-- IMPORT BigMath
theorem B.Has.lt {w : World} {g N : Nat} (h : B.Has w g N) : g < w.heap.size := (Array.getElem?_eq_some_iff.1 h).1
def lombardref02_div.up (way : Int) (L : Bool) (N D : Nat) : Bool := if way = 0 then (L && decide (0 < N % D)) else (decide (D < N % D + N % D) || (decide (N % D + N % D = D) && decide (N / D % 2 = 1)))
def lombardref02_div.Q (way : Int) (L : Bool) (N D : Nat) : Nat := if lombardref02_div.up way L N D = true then N / D + 1 else N / D
def lombardref02_div.r (way : Int) (L : Bool) (N D : Nat) : Int := if lombardref02_small.ok L (lombardref02_div.Q way L N D) = true then lombardref02_small.v L (lombardref02_div.Q way L N D) else 0
def lombardref02_div.e (way : Int) (L : Bool) (N D : Nat) : Int := if lombardref02_small.ok L (lombardref02_div.Q way L N D) = true then 0 else 3
def lombardref02_div.v (less : Bool) (N : Nat) (b way : Int) : Int × Int :=
  if way ≠ 0 ∧ way ≠ 1 then (0, 2) else if b = 0 then (0, 4) else (lombardref02_div.r way (less != decide (b < 0)) N b.natAbs, lombardref02_div.e way (less != decide (b < 0)) N b.natAbs)
end Go.Proofs.Ytchpeobenlnemaa.S
end

section
namespace Go.Proofs.Ytchpeobenlnemaa.S
open Go.RowKit Go.Proofs.YtchpeobenlnemaaW.PrintWords Go.Proofs.YtchpeobenlnemaaW.PrintLast Go.Proofs.YtchpeobenlnemaaW.PrintMore
attribute [local go_sem] max2_int min2_int max_two min_two max_three min_three max_four min_four   -- for this text's walks alone
attribute [local go_sem] Go.Proofs.Ytchpeobenlnemaa.XWalk.cell2
set_option linter.unusedVariables false
set_option linter.unusedSimpArgs false

/-! ### math_bits_Mul: function 45 -/
def math_bits_Mul.f (a0 : Int) (a1 : Int) : Option (Int × Int) := (math_bits_Mul64.f a0 a1).bind fun bt192 => (some (bt192.1, bt192.2))
set_option maxHeartbeats 8000000 in
set_option maxRecDepth 100000 in
theorem math_bits_Mul.calls (a0 : Int) (a1 : Int) (r1 : Int) (r2 : Int) (w : World) (h : math_bits_Mul.f a0 a1 = some (r1, r2)) :
    Calls Try.prog 45 #[.int .u64 a0, .int .u64 a1] w fun e w' => e = .returned (.tuple #[.int .u64 r1, .int .u64 r2]) ∧ Drawn0 w w' := by
  have H : ((math_bits_Mul64.f a0 a1).bind fun bt192 => (some (bt192.1, bt192.2))) = some (r1, r2) := h
  clear h
  replace H := Option.bind_eq_some_iff.mp H
  obtain ⟨⟨t192, t193⟩, A30, H⟩ := H
  replace H : (some (t192, t193)) = some (r1, r2) := H
  have A3 := Aside0.mk A30
  clear A30
  simp only [Option.some.injEq, Prod.mk.injEq] at H
  obtain ⟨rfl, rfl⟩ := H
  go_enter Try.func45, Try.ntmps45
  go_wp2_with (first | ((with_reducible refine gate_callee (f := 42) rfl ?_); refine goesL_ (some 25) rfl rfl Try.func42 (by kernel_rfl) rfl #[.int .u64 a0, .int .u64 a1] rfl (by (try simp only [List.map_toArray, List.map_cons, List.map_nil]); first | done | rfl | (simp only [List.length_drop, List.length_take]; rfl)) ?_; (with_reducible refine (math_bits_Mul64.calls a0 a1 t192 t193 _ A3.out).mono ?_); rintro e w' ⟨rfl, ⟨nd, rfl⟩⟩; refine ⟨_, rfl, ?_⟩))
  go_ret2
  exact ⟨by first | rfl | (simp; done) | (simp [*]; done), by repeat (first | exact Drawn0.refl _ | apply Drawn0.step)⟩

end Go.Proofs.Ytchpeobenlnemaa.S
end

section
namespace Go.Proofs.Ytchpeobenlnemaa.S
open Go.RowKit Go.Proofs.YtchpeobenlnemaaW.PrintWords Go.Proofs.YtchpeobenlnemaaW.PrintLast Go.Proofs.YtchpeobenlnemaaW.PrintMore
attribute [local go_sem] max2_int min2_int max_two min_two max_three min_three max_four min_four   -- for this text's walks alone
attribute [local go_sem] Go.Proofs.Ytchpeobenlnemaa.XWalk.cell2
set_option linter.unusedVariables false
set_option linter.unusedSimpArgs false

/-! ### slices_Repeat_int64_int64: function 22 -/
/-- A step of a region that draws its order, by what it comes to. -/
theorem slices_Repeat.step {P : Program} {ops : Array Oper} {Q : Exit → Act → World → Prop} {i : Nat} {o : Oper} {K : Act → World → Prop} {a : Act} {w w' : World} {v : Value} (hi : ops[i]? = some o) (hg : o.guard = none) (hr : (execOp a.eval o).run P w = .ok (.value v) w') (h : K (a.put o.dst v) w') : wpOp P ops Q i K a w := by
  have hw : Region.wanted o (yielded ops a.tmps) = true := by simp [Region.wanted, hg]
  unfold wpOp
  simp only [hi]
  rw [if_pos hw]
  refine Or.inl ?_
  unfold Oper.wp
  rw [hr]
  exact h
theorem slices_Repeat.copy {P : Program} {o : Oper} {a : Act} {w w' : World} {u v z : Value} {T T' : TypeId} (x y : Operand) (ho : o.op = .call { callee := .builtin .copy, args := #[x, y], argTypes := #[T, T'] }) (hx : a.eval x = u) (hy : a.eval y = v) (hr : (Builtin.copy_ #[T, T'] o.type #[u, v]).run P w = .ok z w') : (execOp a.eval o).run P w = .ok (.value z) w' := by
  unfold execOp
  simp only [ho, resolve, invoke, builtin, Sem.run_bind, Sem.run_pure, Result.andThen_ok, List.map_toArray, List.map_cons, List.map_nil, hx, hy, hr]
theorem slices_Repeat.norm {P : Program} {md : Region.Mode} {ops : Array Oper} {Q : Exit → Act → World → Prop} {S : World → Prop} {fuel : Nat} {l : Array Bool} {a a' : Act} {w : World} (ha : a = a') (h : wpAnyH P md ops Q S fuel l a' w) : wpAnyH P md ops Q S fuel l a w := ha ▸ h
def slices_Repeat_int64_int64.f (k : Nat) (l0 : List Int) (a1 : Int) : Option (List Int) := if 700 ≤ k ∧ l0 = [1] ∧ 1 ≤ a1 ∧ a1 ≤ 600 then some (List.replicate a1.toNat 1) else none
/-- The block of the new slice, when so many of its first elements are written. -/
def slices_Repeat.Row (W : World) (g n cap t : Nat) : Prop := ∃ cur : Array Value, W.heap[g]? = some (.cells cur 2 (0, 0)) ∧ cur.size = cap ∧ (∀ j, j < t → cur[j]? = some (.int .i64 1)) ∧ ∀ j, j < n → ∃ z, cur[j]? = some (.int .i64 z)
theorem slices_Repeat.Row.put {W : World} {g n cap t m : Nat} {cur : Array Value} (hg : W.heap[g]? = some (.cells cur 2 (0, 0))) (hs : cur.size = cap) (h1 : ∀ j, j < t → cur[j]? = some (.int .i64 1)) (h2 : ∀ j, j < n → ∃ z, cur[j]? = some (.int .i64 z)) (hm : t + m ≤ cap) :
    slices_Repeat.Row (W.setRow g (cur.toList.take t ++ (List.replicate m (Value.int .i64 1) ++ cur.toList.drop (t + m))).toArray) g n cap (t + m) := by
  have hl : cur.toList.length = cap := by rw [Array.length_toList]; exact hs
  have e : ∀ j, (cur.toList.take t ++ (List.replicate m (Value.int .i64 1) ++ cur.toList.drop (t + m))).toArray[j]? = if j < t + m then (if j < t then cur[j]? else some (.int .i64 1)) else cur[j]? := by
    intro j
    rw [List.getElem?_toArray]
    by_cases c1 : j < t
    · rw [if_pos (by omega), if_pos c1, List.getElem?_append_left (by rw [List.length_take]; omega), List.getElem?_take_of_lt c1, Array.getElem?_toList]
    · rw [List.getElem?_append_right (by rw [List.length_take]; omega), List.length_take, Nat.min_eq_left (by omega)]
      by_cases c2 : j < t + m
      · rw [if_pos c2, if_neg c1, List.getElem?_append_left (by rw [List.length_replicate]; omega), List.getElem?_replicate, if_pos (by omega)]
      · rw [if_neg c2, List.getElem?_append_right (by rw [List.length_replicate]; omega), List.length_replicate, List.getElem?_drop, show t + m + (j - t - m) = j by omega, Array.getElem?_toList]
  refine ⟨_, setRow_heap W g cur _ _ _ hg, ?_, fun j hj => ?_, fun j hj => ?_⟩
  · simp only [List.size_toArray, List.length_append, List.length_take, List.length_replicate, List.length_drop, hl]
    omega
  · rw [e, if_pos hj]
    by_cases c : j < t
    · rw [if_pos c]; exact h1 j c
    · rw [if_neg c]
  · rw [e]
    by_cases c : j < t + m
    · rw [if_pos c]
      by_cases c1 : j < t
      · rw [if_pos c1]; exact h2 j hj
      · rw [if_neg c1]; exact ⟨1, rfl⟩
    · rw [if_neg c]; exact h2 j hj
set_option maxRecDepth 100000 in
set_option maxHeartbeats 4000000 in
theorem slices_Repeat_int64_int64.calls (k : Nat) (A0 : Option Addr) (c0 : Nat) (l0 : List Int) (a1 : Int) (r : List Int) (w : World) (hr0 : Kd.C (Kd.int .i64) w A0 l0.length l0) (hc0 : l0.length ≤ c0) (h : slices_Repeat_int64_int64.f k l0 a1 = some r) :
    Calls Try.prog 22 #[.slice A0 l0.length c0, .int .i64 a1] w fun e w' => ∃ v0_ : Value, e = .returned v0_ ∧ Kd.R (Kd.int .i64) 2 w' w.heap.size (fun _ => True) v0_ r ∧ Below w.heap.size w w' := by
  unfold slices_Repeat_int64_int64.f at h
  split at h
  case isFalse => exact absurd h (by simp)
  rename_i hg
  obtain ⟨hk, rfl, h1, h2⟩ := hg
  obtain rfl := Option.some.inj h
  clear h hk
  obtain ⟨ad, rfl, hcell⟩ := Kd.at_int hr0 0 (by omega) (by simp)
  have hcell : w.cell? (ad.add 0) = some (.int .i64 1) := hcell
  clear hr0
  obtain ⟨n, rfl⟩ := Int.eq_ofNat_of_zero_le (show 0 ≤ a1 by omega)
  have hn1 : 1 ≤ n := by omega
  have hn2 : n ≤ 600 := by omega
  have HN := Aside0.mk hn1
  have HM := Aside0.mk hn2
  have q1 : ((n : Int) < 0) = False := eq_false (by omega)
  have q2 : IntKind.u64.wrap (n : Int) = n := by rw [IntKind.wrap_u64]; omega
  have q3 : (9223372036854775807 < (n : Int)) = False := eq_false (by omega)
  have q4 : wrap64 (n : Int) = n := by unfold wrap64; omega
  have hmul : math_bits_Mul.f 1 (n : Int) = some (0, (n : Int)) := by
    unfold math_bits_Mul.f
    rw [Go.Proofs.Ytchpeobenlnemaa.XBits.mul64 (by omega) (by omega) (by omega) (by omega), Option.bind_some, Int.one_mul]
    dsimp only
    rw [show (n : Int) / 18446744073709551616 = 0 by omega, show (n : Int) % 18446744073709551616 = n by omega]
  have HMU := Aside0.mk hmul
  clear hmul h1 h2 hn1 hn2
  go_enter Try.func22, Try.ntmps22
  have hinfo : (Try.prog.info? 2).map (fun i => (i.zero, i.size, i.bytes)) = some (some (.int .i64 0), 1, 8) := by kernel_rfl
  have hsz : (Try.prog.info? 2).map (·.size) = some 1 := by kernel_rfl
  go_upto_region 7 with (first | (go_at_call 45; (with_reducible refine (math_bits_Mul.calls 1 n 0 n _ HMU.out).mono ?_); rintro e w' ⟨rfl, ⟨nd, rfl⟩⟩) | ((with_reducible refine gate_dst (N := 30) rfl ?_); rw [q4]; refine Kd.R_make (Kd.int .i64) (w0 := w) w.heap.size 2 rfl (N := 30) rfl 22 _ _ rfl n rfl rfl Try.underlying22 (.int .i64 0) 8 hinfo rfl (by decide) (by omega) 0 (ok := fun _ => True) (okp := fun _ => True) rfl (fun _ hk => hk) trivial (by omega) (by have := HM.out; omega) (pw_below_drewN (Below.refl _ _) _) (Nat.le_refl _) ?_; intro v1 w1 ho hb1 hgr1 hnew1; clear hgr1 hnew1))
  have ow := Kd.own_of_R ho
  rw [List.length_replicate, Int.toNat_natCast] at ow
  obtain ⟨hl0, h2⟩ := ow
  have hn1 := HN.out
  have hn2 := HM.out
  rcases h2 with ⟨_, h0⟩ | ⟨g, cap, cur, rfl, hbg, hgg, hnc, hcm, hcs, htk⟩
  · omega
  have hcs' : cur.size = cap := by omega
  have hz : ∀ j, j < n → ∃ z, cur[j]? = some (.int .i64 z) := fun j hj => by
    refine ⟨0, ?_⟩
    have e : (cur.toList.take (n * 1))[j]? = some (Value.int .i64 0) := by
      rw [htk]
      simp [encs, List.getElem?_replicate, hj]
    rw [List.getElem?_take_of_lt (by omega), Array.getElem?_toList] at e
    exact e
  have hsrc : ∀ (j : Nat) (v : Value), [Value.int .i64 1][j]? = some v → w1.cell? (ad.add j) = some v := fun j v hv => by
    cases j with
    | zero =>
      obtain rfl := Option.some.inj hv
      exact (hb1.cell (World.block_lt_of_cell? w _ hcell)).trans hcell
    | succ j => simp at hv
  have HZ := Aside0.mk hz
  have HCS := Aside0.mk hcs'
  have HNC := Aside0.mk hnc
  have HCM := Aside0.mk hcm
  have HBG := Aside0.mk hbg
  have HB1 := Aside0.mk hb1
  have HSR := Aside0.mk hsrc
  clear ho hl0 htk hz hsrc hcs hcs' hn1 hn2 hnc hcm hbg hb1
  go_upto_region 8 with (first | ((with_reducible refine gate_builtin (b := .copy) (xs := #[.tmp 31, .tmp 32]) rfl ?_); go_must (refine wpList_copy_own rfl (.tmp 31) (.tmp 32) 22 22 rfl 2 Try.underlying22 hsz g 0 n cap ad 1 c0 rfl rfl cur 2 hgg [.int .i64 1] (show 1 = Nat.min 1 n from (Nat.min_eq_left HN.out).symm) HSR.out (by have h1 := HN.out; have h2 := HNC.out; have h3 := HCS.out; show 0 + 1 ≤ cur.size; omega) (by simp [Value.oneCell']) ?_)))
  have hrow0 : slices_Repeat.Row (w1.setRow g (Value.int .i64 1 :: cur.toList.tail).toArray) g n cap 1 := by
    have h := slices_Repeat.Row.put (t := 0) (m := 1) hgg HCS.out (fun j hj => absurd hj (Nat.not_lt_zero j)) HZ.out (by have := HN.out; have := HNC.out; omega)
    rw [show cur.toList.drop (0 + 1) = cur.toList.tail from List.drop_one] at h
    exact h
  have hbel0 : Below w.heap.size w (w1.setRow g (Value.int .i64 1 :: cur.toList.tail).toArray) := below_setRow HB1.out HBG.out _
  clear hgg HZ HCS HB1 HSR
  generalize w1.setRow g (Value.int .i64 1 :: cur.toList.tail).toArray = W0 at *
  go_loopw [8] (fun v8 wr => ∃ t : Nat, v8 = .int .i64 t ∧ Aside0 (1 ≤ t) ∧ Aside0 (t ≤ n) ∧ Aside0 (slices_Repeat.Row wr g n cap t) ∧ Aside0 (Below w.heap.size w wr)) (fun v8 _ => n - (intOf v8).toNat)
  case atStart => exact ⟨1, by first | rfl | simp [goInt], ⟨Nat.le_refl _⟩, ⟨HN.out⟩, ⟨hrow0⟩, ⟨hbel0⟩⟩
  case round =>
    obtain ⟨t, rfl, T1, TN, TR, TB⟩ := hrel
    clear hrow0 hbel0
    by_cases c : t < n
    · have q5 : ((t : Int) < (n : Int)) = True := eq_true (by omega)
      have HQ := Aside0.mk c
      clear c
      go_upto_region 9 with (fail)
      refine wp_region_held (S := fun _ => True) (by kernel_rfl) ?_
      have q6 : ((t : Int) ≤ (n : Int)) = True := eq_true (by have := HQ.out; omega)
      have q7 : ((n : Int) ≤ (cap : Int)) = True := eq_true (by have := HNC.out; omega)
      have q8 : ((t : Int) ≤ (cap : Int)) = True := eq_true (by have := HNC.out; have := HQ.out; omega)
      refine wpAnyH_take (i := 0) (v := .int .i64 (t : Int)) rfl (by kernel_rfl) (by kernel_rfl) (by kernel_rfl) (fun _ _ _ h => h) (Or.inl ⟨by rfl, fun W1 hS => by go_simp⟩) trivial ?_
      refine wpAnyH_take (i := 1) (v := .slice (some ⟨g, 0, none⟩) n cap) rfl (by kernel_rfl) (by kernel_rfl) (by kernel_rfl) (fun _ _ _ h => h) (Or.inl ⟨by rfl, fun W1 hS => by go_simp⟩) trivial ?_
      refine wpAnyH_take (i := 2) (v := .int .i64 (t : Int)) rfl (by kernel_rfl) (by kernel_rfl) (by kernel_rfl) (fun _ _ _ h => h) (Or.inl ⟨by rfl, fun W1 hS => by go_simp⟩) trivial ?_
      refine wpAnyH_take (i := 3) (v := .slice (some ⟨g, t, none⟩) (n - t) (cap - t)) rfl (by kernel_rfl) (by kernel_rfl) (by kernel_rfl) (fun _ _ _ h => h) (Or.inl ⟨by rfl, fun W1 hS => by go_simp; intro hc; have := HNC.out; have := HQ.out; omega⟩) trivial ?_
      refine wpAnyH_take (i := 4) (v := .slice (some ⟨g, 0, none⟩) n cap) rfl (by kernel_rfl) (by kernel_rfl) (by kernel_rfl) (fun _ _ _ h => h) (Or.inl ⟨by rfl, fun W1 hS => by go_simp⟩) trivial ?_
      refine wpAnyH_take (i := 5) (v := .int .i64 (t : Int)) rfl (by kernel_rfl) (by kernel_rfl) (by kernel_rfl) (fun _ _ _ h => h) (Or.inl ⟨by rfl, fun W1 hS => by go_simp⟩) trivial ?_
      refine wpAnyH_take (i := 6) (v := .slice (some ⟨g, 0, none⟩) t cap) rfl (by kernel_rfl) (by kernel_rfl) (by kernel_rfl) (fun _ _ _ h => h) (Or.inl ⟨by rfl, fun W1 hS => by go_simp⟩) trivial ?_
      refine wpAnyH_all (rs := [7]) (by kernel_rfl) (by simp) ?_
      intro i hi7
      obtain rfl : i = 7 := by simpa using hi7
      clear hi7
      obtain ⟨cur2, hg2, hs2, hu2, hz2⟩ := TR.out
      obtain ⟨m, hm⟩ : ∃ m, m = Nat.min t (n - t) := ⟨_, rfl⟩
      have hm1 : m ≤ t := by rw [hm]; exact Nat.min_le_left _ _
      have hm2 : m ≤ n - t := by rw [hm]; exact Nat.min_le_right _ _
      have hm3 : 1 ≤ m := by have := T1.out; have := HQ.out; rw [hm]; exact Nat.le_min.2 ⟨by omega, by omega⟩
      have hr := run_copy_row (P := Try.prog) ({ wr with drawn := wr.drawn + 1 }) 22 22 3 2 g t (n - t) (cap - t) ⟨g, 0, none⟩ t cap cur2 2 (List.replicate m (Value.int .i64 1)) Try.underlying22 hsz hg2 (by rw [List.length_replicate, hm]) (fun j v hv => by
        rw [List.getElem?_replicate] at hv
        by_cases hj : j < m
        · rw [if_pos hj] at hv
          obtain rfl := Option.some.inj hv
          have := hu2 j (by omega)
          by_cases h0 : j = 0
          · subst h0
            simp [World.cell?, Addr.add, hg2, this]
          · simp [World.cell?, Addr.add, hg2, this, h0]
        · rw [if_neg hj] at hv
          cases hv) (by rw [List.length_replicate]; have := HNC.out; have := HQ.out; omega) (fun v hv => by rw [(List.mem_replicate.1 hv).2]; rfl)
      rw [List.length_replicate] at hr
      refine slices_Repeat.step rfl rfl (slices_Repeat.copy (.tmp 41) (.tmp 44) rfl (by kernel_rfl) (by kernel_rfl) hr) ?_
      have hrow1 := slices_Repeat.Row.put (W := { wr with drawn := wr.drawn + 1 }) (m := m) hg2 hs2 hu2 hz2 (by have := HNC.out; have := HQ.out; omega)
      have hbel1 := below_setRow (w0 := w) (w := { wr with drawn := wr.drawn + 1 }) (g := g) (B := w.heap.size) (Below.drew TB.out) HBG.out (cur2.toList.take t ++ List.replicate m (Value.int .i64 1) ++ cur2.toList.drop (t + m)).toArray
      rw [← List.append_assoc] at hrow1
      generalize ({ wr with drawn := wr.drawn + 1 } : World).setRow g (cur2.toList.take t ++ List.replicate m (Value.int .i64 1) ++ cur2.toList.drop (t + m)).toArray = W2 at *
      refine ⟨trivial, ?_⟩
      clear hr hg2 hs2 hu2 hz2 hm
      have q9 : IntKind.i64.wrap ((t : Int) + (m : Int)) = (t : Int) + (m : Int) := by rw [i64_w]; unfold wrap64; have := HM.out; have := HQ.out; omega
      refine wpAnyH_take (i := 8) (v := .int .i64 ((t + m : Nat) : Int)) rfl (by kernel_rfl) (by kernel_rfl) (by kernel_rfl) (fun _ _ _ h => h) (Or.inl ⟨by rfl, fun W1 hS => by go_simp⟩) trivial ?_
      refine wpAnyH_take (i := 9) (v := .int .i64 ((t + m : Nat) : Int)) rfl (by kernel_rfl) (by kernel_rfl) (by kernel_rfl) (fun _ _ _ h => h) (Or.inl ⟨by rfl, fun W1 hS => by go_simp⟩) trivial ?_
      refine slices_Repeat.norm (a' := { tmps := #[.slice (some ad) 1 c0, .int .i64 (n : Int), undef, undef, .slice none 0 0, .int .u64 0, .int .u64 (n : Int), .slice (some ⟨g, 0, none⟩) n cap, .int .i64 ((t + m : Nat) : Int), .int .i64 (n : Int), .bool false, undef, .tuple #[.int .u64 0, .int .u64 (n : Int)], .slice (some ad) 1 c0, .int .i64 1, .int .u64 1, .int .i64 (n : Int), .int .u64 (n : Int), .tuple #[.int .u64 0, .int .u64 (n : Int)], .int .u64 0, .int .u64 (n : Int), .int .u64 0, .bool false, .bool false, .int .u64 (n : Int), .bool false, .bool false, undef, .int .u64 (n : Int), .int .i64 (n : Int), .slice (some ⟨g, 0, none⟩) n cap, .slice (some ⟨g, 0, none⟩) n cap, .slice (some ad) 1 c0, .int .i64 1, .int .i64 (t : Int), .slice (some ⟨g, 0, none⟩) n cap, .int .i64 (n : Int), .bool true, .int .i64 (t : Int), .slice (some ⟨g, 0, none⟩) n cap, .int .i64 (t : Int), .slice (some ⟨g, t, none⟩) (n - t) (cap - t), .slice (some ⟨g, 0, none⟩) n cap, .int .i64 (t : Int), .slice (some ⟨g, 0, none⟩) t cap, .int .i64 (m : Int), .int .i64 ((t + m : Nat) : Int), undef], defers := [] }) (by kernel_rfl) ?_
      refine wpAnyH_done (by kernel_rfl) ?_ _
      clear q9 q5 q6 q7 q8
      go_wp2
      go_roundw
      case rel => exact ⟨t + m, rfl, ⟨by omega⟩, ⟨by have := HQ.out; omega⟩, ⟨hrow1⟩, ⟨hbel1⟩⟩
      case measure => have := HQ.out; simp [intOf]; omega
    · obtain rfl : t = n := by have := TN.out; omega
      go_wp2
      go_ret
      refine ⟨_, rfl, ?_, TB.out⟩
      obtain ⟨cur2, hg2, hs2, hu2, hz2⟩ := TR.out
      have e : (List.replicate ((t : Int)).toNat (1 : Int)).length = t := by rw [List.length_replicate, Int.toNat_natCast]
      have ow : wr.ownsRow w.heap.size 2 1 (.slice (some ⟨g, 0, none⟩) t cap) (List.replicate ((t : Int)).toNat (1 : Int)).length (encs (Value.int .i64) (List.replicate ((t : Int)).toNat 1)) := by
        rw [e, Int.toNat_natCast]
        refine ⟨by simp [encs], .inr ⟨g, cap, cur2, rfl, HBG.out, hg2, HNC.out, HCM.out, by omega, ?_⟩⟩
        apply List.ext_getElem?
        intro j
        have hle := HNC.out
        by_cases hj : j < t
        · rw [List.getElem?_take_of_lt (by omega), Array.getElem?_toList, hu2 j hj]
          simp [encs, List.getElem?_replicate, hj]
        · rw [List.getElem?_eq_none (by rw [List.length_take, Array.length_toList]; omega), List.getElem?_eq_none (by simp [encs]; omega)]
      exact Kd.R_of_own ow (fun _ _ => trivial)


end Go.Proofs.Ytchpeobenlnemaa.S
end

section
namespace Go.Proofs.Ytchpeobenlnemaa.S
open Go.RowKit Go.Proofs.YtchpeobenlnemaaW.PrintWords Go.Proofs.YtchpeobenlnemaaW.PrintLast Go.Proofs.YtchpeobenlnemaaW.PrintMore
attribute [local go_sem] max2_int min2_int max_two min_two max_three min_three max_four min_four   -- for this text's walks alone
attribute [local go_sem] Go.Proofs.Ytchpeobenlnemaa.XWalk.cell2
set_option linter.unusedVariables false
set_option linter.unusedSimpArgs false

/-! ### sched_Build: function 11 -/
/-- The cells of a plan. -/
def sched_Build.pl (kd pr : Int) (A2 : Option Addr) (n2 c2 : Nat) (per at_ left level : Int) (P7 : Value) : Array Value := #[.int .i64 kd, .int .i64 pr, .slice A2 n2 c2, .int .i64 per, .int .i64 at_, .int .i64 left, .int .i64 level, P7]
theorem sched_Build.pl_cell {W : World} {g : Nat} {kd pr : Int} {A2 : Option Addr} {n2 c2 : Nat} {per at_ left level : Int} {P7 : Value} (h : W.heap[g]? = some (.cells (sched_Build.pl kd pr A2 n2 c2 per at_ left level P7) 51 (0, 0))) :
    W.cell? ⟨g, 0, none⟩ = some (.int .i64 kd) ∧ W.cell? ⟨g, 1, none⟩ = some (.int .i64 pr) ∧ W.cell? ⟨g, 2, none⟩ = some (.slice A2 n2 c2) ∧ W.cell? ⟨g, 3, none⟩ = some (.int .i64 per) ∧ W.cell? ⟨g, 4, none⟩ = some (.int .i64 at_) ∧ W.cell? ⟨g, 5, none⟩ = some (.int .i64 left) ∧ W.cell? ⟨g, 6, none⟩ = some (.int .i64 level) ∧ W.cell? ⟨g, 7, none⟩ = some P7 :=
  ⟨(blk_cell h 0).trans rfl, (blk_cell h 1).trans rfl, (blk_cell h 2).trans rfl, (blk_cell h 3).trans rfl, (blk_cell h 4).trans rfl, (blk_cell h 5).trans rfl, (blk_cell h 6).trans rfl, (blk_cell h 7).trans rfl⟩
/-- The rates can be read, and lie below the plan. -/
def sched_Build.RD (W : World) (g : Nat) (A2 : Option Addr) (rates : List Int) : Prop := ∀ j : Int, 0 ≤ j → j < rates.length → ∃ ad, A2 = some ad ∧ ad.block < g ∧ W.cell? (ad.add j.toNat) = some (.int .i64 (rd rates j))
theorem sched_Build.RD.below {W W1 : World} {g : Nat} {A2 : Option Addr} {rates : List Int} (h : sched_Build.RD W g A2 rates) (hb : Below g W W1) : sched_Build.RD W1 g A2 rates := fun j h0 h1 => by
  obtain ⟨ad, e, hl, hx⟩ := h j h0 h1
  exact ⟨ad, e, hl, (hb.cell (p := ad.add j.toNat) (by rw [add_block]; exact hl)).trans hx⟩
/-- A period's rate. -/
def sched_Build.rt (rates : List Int) (i : Int) : Int := rd rates (mn i ((rates.length : Int) - 1))
set_option maxHeartbeats 4000000 in
set_option maxRecDepth 100000 in
theorem sched_Build.rate (w : World) (g : Nat) (kd pr : Int) (A2 : Option Addr) (c2 : Nat) (rates : List Int) (per at_ left level : Int) (P7 : Value) (i : Int) (hg : w.heap[g]? = some (.cells (sched_Build.pl kd pr A2 rates.length c2 per at_ left level P7) 51 (0, 0))) (hr : sched_Build.RD w g A2 rates) (h1 : 1 ≤ rates.length) (h2 : rates.length ≤ 600) (hi : 0 ≤ i) :
    Calls Try.prog 27 #[.pointer (some ⟨g, 0, none⟩), .int .i64 i] w fun e w' => e = .returned (.int .i64 (sched_Build.rt rates i)) ∧ Below w.heap.size w w' := by
  obtain ⟨z0, z1, z2, z3, z4, z5, z6, z7⟩ := sched_Build.pl_cell hg
  obtain ⟨j, hj⟩ : ∃ j : Int, mn i ((rates.length : Int) - 1) = j := ⟨_, rfl⟩
  have hj_ : (if (rates.length : Int) - 1 < i then (rates.length : Int) - 1 else i) = j := hj
  have jb : 0 ≤ j ∧ j < (rates.length : Int) := by
    rw [← hj_]
    split <;> omega
  have q0 : wrap64 ((rates.length : Int) - 1) = (rates.length : Int) - 1 := by unfold wrap64; omega
  obtain ⟨ad, e2, _, hx⟩ := hr j jb.1 jb.2
  cases e2
  have p1 : (0 ≤ j) = True := eq_true jb.1
  have p2 : (j < (rates.length : Int)) = True := eq_true jb.2
  unfold sched_Build.rt
  rw [hj]
  have HB := Aside0.mk (Below.refl w.heap.size w)
  clear hj jb hg hr h1 h2 hi
  go_enter Try.func27, Try.ntmps27
  go_wp2
  repeat (go_quiet (fail); try go_wp2)
  go_ret
  exact ⟨by first | rfl | simp, by repeat (first | (with_reducible first | exact HB.out | apply below_alloc | apply pw_below_drewN | apply below_drew1) | exact HB.out)⟩
set_option maxHeartbeats 4000000 in
set_option maxRecDepth 100000 in
theorem sched_Build.linear (w : World) (g : Nat) (kd pr : Int) (A2 : Option Addr) (n2 c2 : Nat) (per at_ left level : Int) (A7 : Option Addr) (c7 : Nat) (parts : List Int) (i : Int) (hg : w.heap[g]? = some (.cells (sched_Build.pl kd pr A2 n2 c2 per at_ left level (.slice A7 parts.length c7)) 51 (0, 0))) (hr : ∃ ad, A7 = some ad ∧ w.cell? (ad.add at_.toNat) = some (.int .i64 (rd parts at_))) (h1 : 0 ≤ at_) (h2 : at_ < parts.length) :
    Calls Try.prog 24 #[.pointer (some ⟨g, 0, none⟩), .int .i64 i] w fun e w' => e = .returned (.int .i64 (wrap64 (i + rd parts at_))) ∧ Below w.heap.size w w' := by
  obtain ⟨z0, z1, z2, z3, z4, z5, z6, z7⟩ := sched_Build.pl_cell hg
  obtain ⟨ad, e2, hx⟩ := hr
  cases e2
  have p1 : (0 ≤ at_) = True := eq_true h1
  have p2 : (at_ < (parts.length : Int)) = True := eq_true h2
  have HB := Aside0.mk (Below.refl w.heap.size w)
  clear hg h1 h2
  go_enter Try.func24, Try.ntmps24
  go_wp2
  repeat (go_quiet (fail); try go_wp2)
  go_ret
  exact ⟨by first | rfl | simp, by repeat (first | (with_reducible first | exact HB.out | apply below_alloc | apply pw_below_drewN | apply below_drew1) | exact HB.out)⟩
theorem sched_Build.only (w : World) (g : Nat) (i : Int) : Calls Try.prog 25 #[.pointer (some ⟨g, 0, none⟩), .int .i64 i] w fun e w' => e = .returned (.int .i64 i) ∧ Below w.heap.size w w' := by
  go_enter Try.func25, Try.ntmps25
  go_wp2
  go_ret
  exact ⟨rfl, Below.refl _ _⟩
theorem sched_Build.nothing (w : World) (g : Nat) (i : Int) : Calls Try.prog 26 #[.pointer (some ⟨g, 0, none⟩), .int .i64 i] w fun e w' => e = .returned (.int .i64 0) ∧ Below w.heap.size w w' := by
  go_enter Try.func26, Try.ntmps26
  go_wp2
  go_ret
  exact ⟨rfl, Below.refl _ _⟩

theorem sched_Build.step {P : Program} {ops : Array Oper} {Q : Exit → Act → World → Prop} {i : Nat} {o : Oper} {K : Act → World → Prop} {a : Act} {w w' : World} {v : Value} (hi : ops[i]? = some o) (hg : o.guard = none) (hr : (execOp a.eval o).run P w = .ok (.value v) w') (h : K (a.put o.dst v) w') : wpOp P ops Q i K a w := by
  have hw : Region.wanted o (yielded ops a.tmps) = true := by simp [Region.wanted, hg]
  unfold wpOp
  simp only [hi]
  rw [if_pos hw]
  refine Or.inl ?_
  unfold Oper.wp
  rw [hr]
  exact h
theorem sched_Build.skip {P : Program} {ops : Array Oper} {Q : Exit → Act → World → Prop} {i : Nat} {o : Oper} {K : Act → World → Prop} {a : Act} {w w' : World} (hi : ops[i]? = some o) (hg : o.guard = none) (hd : o.dst = none) (hr : (execOp a.eval o).run P w = .ok .skip w') (h : K a w') : wpOp P ops Q i K a w := by
  have hw : Region.wanted o (yielded ops a.tmps) = true := by simp [Region.wanted, hg]
  have hp : a.put o.dst undef = a := by rw [hd]; rfl
  unfold wpOp
  simp only [hi]
  rw [if_pos hw]
  refine Or.inl ?_
  unfold Oper.wp
  rw [hr]
  show K (a.put o.dst undef) w'
  rw [hp]
  exact h
theorem sched_Build.norm {P : Program} {md : Region.Mode} {ops : Array Oper} {Q : Exit → Act → World → Prop} {S : World → Prop} {fuel : Nat} {l : Array Bool} {a a' : Act} {w : World} (ha : a = a') (h : wpAnyH P md ops Q S fuel l a' w) : wpAnyH P md ops Q S fuel l a w := ha ▸ h
section
open Go.Proofs.YtchpeobenlnemaaW.PrintLast
theorem sched_Build.callR {P : Program} {ops : Array Oper} {Q : Exit → Act → World → Prop} {i : Nat} {o : Oper} {K : Act → World → Prop} {a : Act} {w : World} {f : FuncId} {fn : Func} {c : Operand} {ops_ : Array Operand} {ts : Array TypeId} (caps : Array Value) (hi : ops[i]? = some o) (hw : Region.wanted o (yielded ops a.tmps) = true) (hf : P.funcs[f]? = some fn) (hname : (fn.name == "runtime.NumGoroutine") = false) (hb : fn.body.isSome = true) (args : Array Value)
    (ho : o.op = .call { callee := .value c, args := ops_, argTypes := ts }) (hc : a.eval c = .func (.func f) #[] caps) (hargs : ops_.map a.eval ++ caps = args) (h : Calls P f args w fun e w' => ∃ v, e = .returned v ∧ K (a.put o.dst v) w') : wpOp P ops Q i K a w := by
  have t : if Region.wanted o (yielded ops a.tmps) = true then Oper.wp P o a w K Q else K (a.put o.dst undef) w := by
    refine call_ f args hw rfl ?_ h
    have he := enters_ hf hname hb args w
    unfold execOp
    simp [ho, resolve, Deferred.ofValue, invoke, hc, hargs, he]
  rw [if_pos hw] at t
  unfold wpOp
  simp only [hi]
  rw [if_pos hw]
  exact Or.inl t
end
/-- What a region of a method keeps. -/
def sched_Build.S (w : World) (g : Nat) (kd pr : Int) (A2 : Option Addr) (n2 c2 : Nat) (per at_ left : Int) (P7 : Value) (W1 : World) : Prop := ∃ lx, W1.heap[g]? = some (.cells (sched_Build.pl kd pr A2 n2 c2 per at_ left lx P7) 51 (0, 0)) ∧ KeepBut w W1 g none ∧ Below g w W1
theorem sched_Build.S.lt {w : World} {g : Nat} {kd pr : Int} {A2 : Option Addr} {n2 c2 : Nat} {per at_ left : Int} {P7 : Value} {W1 : World} (h : sched_Build.S w g kd pr A2 n2 c2 per at_ left P7 W1) : g < W1.heap.size := by
  obtain ⟨lx, hg, _⟩ := h
  exact (Array.getElem?_eq_some_iff.1 hg).1
theorem sched_Build.S.below {w : World} {g : Nat} {kd pr : Int} {A2 : Option Addr} {n2 c2 : Nat} {per at_ left : Int} {P7 : Value} {W1 W2 : World} (h : sched_Build.S w g kd pr A2 n2 c2 per at_ left P7 W1) (hb : Below W1.heap.size W1 W2) : sched_Build.S w g kd pr A2 n2 c2 per at_ left P7 W2 := by
  have hl := h.lt
  obtain ⟨lx, hg, hk, hbb⟩ := h
  exact ⟨lx, (hb.block g hl).trans hg, hk.trans (KeepBut.of_below hb g none) (.inl rfl), hbb.trans (hb.mono (Nat.le_of_lt hl))⟩
theorem sched_Build.S.drew {w : World} {g : Nat} {kd pr : Int} {A2 : Option Addr} {n2 c2 : Nat} {per at_ left : Int} {P7 : Value} {W1 : World} (h : sched_Build.S w g kd pr A2 n2 c2 per at_ left P7 W1) : sched_Build.S w g kd pr A2 n2 c2 per at_ left P7 { W1 with drawn := W1.drawn + 1 } := by
  obtain ⟨lx, hq, hk, hb⟩ := h
  exact ⟨lx, hq, hk, ⟨hb.os, hb.tape, hb.output, hb.size, hb.block⟩⟩
theorem sched_Build.set_blk {W : World} {g : Nat} {cells : Array Value} {T : TypeId} (h : W.heap[g]? = some (.cells cells T (0, 0))) (j : Nat) (v : Value) : (W.setCell ⟨g, j, none⟩ v).heap[g]? = some (.cells (cells.setIfInBounds j v) T (0, 0)) := by
  obtain ⟨hlt, hk⟩ := Array.getElem?_eq_some_iff.1 h
  show (W.heap.modify g _)[g]? = _
  rw [Array.getElem?_eq_getElem (by rw [Array.size_modify]; exact hlt), Array.getElem_modify_self, hk]
  rfl
set_option maxHeartbeats 4000000 in
set_option maxRecDepth 100000 in
theorem sched_Build.annuity (k : Nat) (w : World) (g : Nat) (kd pr : Int) (A2 : Option Addr) (c2 : Nat) (rates : List Int) (per at_ left level : Int) (P7 : Value) (i lv er : Int) (hg : w.heap[g]? = some (.cells (sched_Build.pl kd pr A2 rates.length c2 per at_ left level P7) 51 (0, 0))) (hr : sched_Build.RD w g A2 rates) (h1 : 1 ≤ rates.length) (h2 : rates.length ≤ 600) (ha : 0 ≤ at_) (ha1 : at_ ≤ 600)
    (hl : at_ = 0 ∨ sched_Build.rt rates at_ ≠ sched_Build.rt rates (at_ - 1) → sched_Level.f k left (sched_Build.rt rates at_) (wrap64 (per - at_)) = some (lv, er)) (hn : ¬(at_ = 0 ∨ sched_Build.rt rates at_ ≠ sched_Build.rt rates (at_ - 1)) → lv = level) :
    Calls Try.prog 23 #[.pointer (some ⟨g, 0, none⟩), .int .i64 i] w fun e w' => e = .returned (.int .i64 (mn lv (wrap64 (left + i)))) ∧ w'.heap[g]? = some (.cells (sched_Build.pl kd pr A2 rates.length c2 per at_ left lv P7) 51 (0, 0)) ∧ KeepBut w w' g none ∧ Below g w w' := by
  have R : ∀ W : World, sched_Build.S w g kd pr A2 rates.length c2 per at_ left P7 W → ∀ j : Int, 0 ≤ j → Calls Try.prog 27 #[.pointer (some ⟨g, 0, none⟩), .int .i64 j] W fun e w' => e = .returned (.int .i64 (sched_Build.rt rates j)) ∧ Below W.heap.size W w' := fun W hS j hj => by
    obtain ⟨lx, hq, hk, hb⟩ := hS
    exact sched_Build.rate W g kd pr A2 c2 rates per at_ left lx P7 j hq (hr.below hb) h1 h2 hj
  have q0 : wrap64 (at_ - 1) = at_ - 1 := by unfold wrap64; omega
  obtain ⟨j, hj⟩ : ∃ j : Int, mn lv (wrap64 (left + i)) = j := ⟨_, rfl⟩
  have hj_ : (if wrap64 (left + i) < lv then wrap64 (left + i) else lv) = j := hj
  rw [hj]
  have HL := Aside0.mk hl
  have HN := Aside0.mk hn
  have HA := Aside0.mk ha
  have RR := Aside0.mk R
  have hS0 : sched_Build.S w g kd pr A2 rates.length c2 per at_ left P7 w := ⟨level, hg, KeepBut.refl _ _ _, Below.refl _ _⟩
  have HS := Aside0.mk hS0
  have HG := Aside0.mk hg
  clear R hl hn h1 h2 ha ha1 hj hg hr hS0
  go_enter Try.func23, Try.ntmps23
  go_upto_region 1 with (fail)
  rename_i K1 hK1 K2 hK2
  have tailT : (at_ = 0 ∨ sched_Build.rt rates at_ ≠ sched_Build.rt rates (at_ - 1)) → ∀ (s5 s6 s7 s8 s9 s10 s11 s12 s13 s14 s15 s16 s17 s18 s19 s20 s21 s22 s23 s24 : Value) (W : World), sched_Build.S w g kd pr A2 rates.length c2 per at_ left P7 W → K2 { tmps := #[.pointer (some ⟨g, 0, none⟩), .int .i64 i, undef, undef, .int .i64 0, s5, s6, s7, s8, s9, s10, s11, s12, s13, s14, s15, s16, s17, s18, s19, s20, s21, s22, s23, s24, .bool true, undef, undef, undef, undef, undef, undef, undef, undef, undef, undef, undef, undef, undef, undef, undef, undef, undef, undef, undef, undef, undef, undef, undef, undef, undef, undef, undef, undef, undef, undef, undef, undef, undef, undef, undef, undef, undef, undef], defers := [] } W := by
    intro hc s5 s6 s7 s8 s9 s10 s11 s12 s13 s14 s15 s16 s17 s18 s19 s20 s21 s22 s23 s24 W hSW
    have LV := Aside0.mk (HL.out hc)
    have HSW := Aside0.mk hSW
    clear hc hSW
    refine hK2 _ _ ?_
    go_upto_region 2 with (fail)
    have hS0 := HSW.out.drew
    refine wp_region_held (S := sched_Build.S w g kd pr A2 rates.length c2 per at_ left P7) (by kernel_rfl) ?_
    refine wpAnyH_take (i := 0) (v := .pointer (some ⟨g, 0, none⟩)) rfl (by kernel_rfl) (by kernel_rfl) (by kernel_rfl) (fun _ _ _ h => h) (Or.inl ⟨by kernel_rfl, fun W1 hS => by (go_simp <;> first | rfl | exact i64_w _)⟩) hS0 ?_
    refine wpAnyH_take (i := 1) (v := .pointer (some ⟨g, 0, none⟩)) rfl (by kernel_rfl) (by kernel_rfl) (by kernel_rfl) (fun _ _ _ h => h) (Or.inl ⟨by kernel_rfl, fun W1 hS => by (go_simp <;> first | rfl | exact i64_w _)⟩) hS0 ?_
    refine wpAnyH_take (i := 2) (v := .pointer (some ⟨g, 0, none⟩)) rfl (by kernel_rfl) (by kernel_rfl) (by kernel_rfl) (fun _ _ _ h => h) (Or.inl ⟨by kernel_rfl, fun W1 hS => by (go_simp <;> first | rfl | exact i64_w _)⟩) hS0 ?_
    refine wpAnyH_take (i := 3) (v := .pointer (some ⟨g, 5, none⟩)) rfl (by kernel_rfl) (by kernel_rfl) (by kernel_rfl) (fun _ _ _ h => h) (Or.inl ⟨by kernel_rfl, fun W1 hS => by (go_simp <;> first | rfl | exact i64_w _)⟩) hS0 ?_
    refine wpAnyH_take (i := 4) (v := .int .i64 left) rfl (by kernel_rfl) (by kernel_rfl) (by kernel_rfl) (fun _ _ _ h => h) (Or.inl ⟨by kernel_rfl, fun W1 hS => by obtain ⟨lx, hq, _⟩ := hS; obtain ⟨y0, y1, y2, y3, y4, y5, y6, y7⟩ := sched_Build.pl_cell hq; go_simp⟩) hS0 ?_
    refine wpAnyH_take (i := 5) (v := .pointer (some ⟨g, 0, none⟩)) rfl (by kernel_rfl) (by kernel_rfl) (by kernel_rfl) (fun _ _ _ h => h) (Or.inl ⟨by kernel_rfl, fun W1 hS => by (go_simp <;> first | rfl | exact i64_w _)⟩) hS0 ?_
    refine wpAnyH_take (i := 6) (v := .pointer (some ⟨g, 0, none⟩)) rfl (by kernel_rfl) (by kernel_rfl) (by kernel_rfl) (fun _ _ _ h => h) (Or.inl ⟨by kernel_rfl, fun W1 hS => by (go_simp <;> first | rfl | exact i64_w _)⟩) hS0 ?_
    refine wpAnyH_take (i := 7) (v := .pointer (some ⟨g, 0, none⟩)) rfl (by kernel_rfl) (by kernel_rfl) (by kernel_rfl) (fun _ _ _ h => h) (Or.inl ⟨by kernel_rfl, fun W1 hS => by (go_simp <;> first | rfl | exact i64_w _)⟩) hS0 ?_
    refine wpAnyH_take (i := 8) (v := .pointer (some ⟨g, 4, none⟩)) rfl (by kernel_rfl) (by kernel_rfl) (by kernel_rfl) (fun _ _ _ h => h) (Or.inl ⟨by kernel_rfl, fun W1 hS => by (go_simp <;> first | rfl | exact i64_w _)⟩) hS0 ?_
    refine wpAnyH_take (i := 9) (v := .int .i64 at_) rfl (by kernel_rfl) (by kernel_rfl) (by kernel_rfl) (fun _ _ _ h => h) (Or.inl ⟨by kernel_rfl, fun W1 hS => by obtain ⟨lx, hq, _⟩ := hS; obtain ⟨y0, y1, y2, y3, y4, y5, y6, y7⟩ := sched_Build.pl_cell hq; go_simp⟩) hS0 ?_
    refine wpAnyH_take (i := 11) (v := .pointer (some ⟨g, 0, none⟩)) rfl (by kernel_rfl) (by kernel_rfl) (by kernel_rfl) (fun _ _ _ h => h) (Or.inl ⟨by kernel_rfl, fun W1 hS => by (go_simp <;> first | rfl | exact i64_w _)⟩) hS0 ?_
    refine wpAnyH_take (i := 12) (v := .pointer (some ⟨g, 0, none⟩)) rfl (by kernel_rfl) (by kernel_rfl) (by kernel_rfl) (fun _ _ _ h => h) (Or.inl ⟨by kernel_rfl, fun W1 hS => by (go_simp <;> first | rfl | exact i64_w _)⟩) hS0 ?_
    refine wpAnyH_take (i := 13) (v := .pointer (some ⟨g, 0, none⟩)) rfl (by kernel_rfl) (by kernel_rfl) (by kernel_rfl) (fun _ _ _ h => h) (Or.inl ⟨by kernel_rfl, fun W1 hS => by (go_simp <;> first | rfl | exact i64_w _)⟩) hS0 ?_
    refine wpAnyH_take (i := 14) (v := .pointer (some ⟨g, 3, none⟩)) rfl (by kernel_rfl) (by kernel_rfl) (by kernel_rfl) (fun _ _ _ h => h) (Or.inl ⟨by kernel_rfl, fun W1 hS => by (go_simp <;> first | rfl | exact i64_w _)⟩) hS0 ?_
    refine wpAnyH_take (i := 15) (v := .int .i64 per) rfl (by kernel_rfl) (by kernel_rfl) (by kernel_rfl) (fun _ _ _ h => h) (Or.inl ⟨by kernel_rfl, fun W1 hS => by obtain ⟨lx, hq, _⟩ := hS; obtain ⟨y0, y1, y2, y3, y4, y5, y6, y7⟩ := sched_Build.pl_cell hq; go_simp⟩) hS0 ?_
    refine wpAnyH_take (i := 16) (v := .pointer (some ⟨g, 0, none⟩)) rfl (by kernel_rfl) (by kernel_rfl) (by kernel_rfl) (fun _ _ _ h => h) (Or.inl ⟨by kernel_rfl, fun W1 hS => by (go_simp <;> first | rfl | exact i64_w _)⟩) hS0 ?_
    refine wpAnyH_take (i := 17) (v := .pointer (some ⟨g, 0, none⟩)) rfl (by kernel_rfl) (by kernel_rfl) (by kernel_rfl) (fun _ _ _ h => h) (Or.inl ⟨by kernel_rfl, fun W1 hS => by (go_simp <;> first | rfl | exact i64_w _)⟩) hS0 ?_
    refine wpAnyH_take (i := 18) (v := .pointer (some ⟨g, 4, none⟩)) rfl (by kernel_rfl) (by kernel_rfl) (by kernel_rfl) (fun _ _ _ h => h) (Or.inl ⟨by kernel_rfl, fun W1 hS => by (go_simp <;> first | rfl | exact i64_w _)⟩) hS0 ?_
    refine wpAnyH_take (i := 19) (v := .int .i64 at_) rfl (by kernel_rfl) (by kernel_rfl) (by kernel_rfl) (fun _ _ _ h => h) (Or.inl ⟨by kernel_rfl, fun W1 hS => by obtain ⟨lx, hq, _⟩ := hS; obtain ⟨y0, y1, y2, y3, y4, y5, y6, y7⟩ := sched_Build.pl_cell hq; go_simp⟩) hS0 ?_
    refine wpAnyH_take (i := 20) (v := .int .i64 (wrap64 (per - at_))) rfl (by kernel_rfl) (by kernel_rfl) (by kernel_rfl) (fun _ _ _ h => h) (Or.inl ⟨by kernel_rfl, fun W1 hS => by (go_simp <;> first | rfl | exact i64_w _)⟩) hS0 ?_
    refine wpAnyH_all (rs := [10]) (by kernel_rfl) (by simp) ?_
    intro ix hix
    obtain rfl : ix = 10 := by simpa using hix
    clear hix
    refine sched_Build.callR #[] rfl (by kernel_rfl) Try.func27 (by kernel_rfl) rfl #[.pointer (some ⟨g, 0, none⟩), .int .i64 at_] rfl (by kernel_rfl) (by kernel_rfl) ?_
    refine (RR.out _ hS0 at_ HA.out).mono ?_
    rintro e W2 ⟨rfl, hbb⟩
    have hS1 := hS0.below hbb
    refine ⟨_, rfl, hS1, ?_⟩
    clear hbb
    refine wpAnyH_all (rs := [21]) (by kernel_rfl) (by simp) ?_
    intro ix hix
    obtain rfl : ix = 21 := by simpa using hix
    clear hix
    refine sched_Build.callR #[] rfl (by kernel_rfl) Try.func17 (by kernel_rfl) rfl #[.int .i64 left, .int .i64 (sched_Build.rt rates at_), .int .i64 (wrap64 (per - at_))] rfl (by kernel_rfl) (by kernel_rfl) ?_
    refine (sched_Level.calls k left (sched_Build.rt rates at_) (wrap64 (per - at_)) lv er _ LV.out).mono ?_
    rintro e W3 ⟨rfl, hbb⟩
    have hS2 := hS1.below hbb
    refine ⟨_, rfl, hS2, ?_⟩
    clear hbb
    refine wpAnyH_take (i := 22) (v := .tuple #[.int .i64 lv, .int .i64 er]) rfl (by kernel_rfl) (by kernel_rfl) (by kernel_rfl) (fun _ _ _ h => h) (Or.inl ⟨by kernel_rfl, fun W1 hS => by (go_simp <;> first | rfl | exact i64_w _)⟩) hS2 ?_
    refine wpAnyH_take (i := 23) (v := .int .i64 lv) rfl (by kernel_rfl) (by kernel_rfl) (by kernel_rfl) (fun _ _ _ h => h) (Or.inl ⟨by kernel_rfl, fun W1 hS => by (go_simp <;> first | rfl | exact i64_w _)⟩) hS2 ?_
    refine wpAnyH_take (i := 24) (v := .int .i64 er) rfl (by kernel_rfl) (by kernel_rfl) (by kernel_rfl) (fun _ _ _ h => h) (Or.inl ⟨by kernel_rfl, fun W1 hS => by (go_simp <;> first | rfl | exact i64_w _)⟩) hS2 ?_
    refine wpAnyH_take (i := 25) (v := .pointer (some ⟨g, 0, none⟩)) rfl (by kernel_rfl) (by kernel_rfl) (by kernel_rfl) (fun _ _ _ h => h) (Or.inl ⟨by kernel_rfl, fun W1 hS => by (go_simp <;> first | rfl | exact i64_w _)⟩) hS2 ?_
    refine wpAnyH_take (i := 26) (v := .pointer (some ⟨g, 6, none⟩)) rfl (by kernel_rfl) (by kernel_rfl) (by kernel_rfl) (fun _ _ _ h => h) (Or.inl ⟨by kernel_rfl, fun W1 hS => by (go_simp <;> first | rfl | exact i64_w _)⟩) hS2 ?_
    refine wpAnyH_all (rs := [27]) (by kernel_rfl) (by simp) ?_
    intro ix hix
    obtain rfl : ix = 27 := by simpa using hix
    clear hix
    obtain ⟨lx, hq, hk, hb⟩ := hS2
    obtain ⟨y0, y1, y2, y3, y4, y5, y6, y7⟩ := sched_Build.pl_cell hq
    have f6 := blk_frozen hq 6
    have hq2 := sched_Build.set_blk hq 6 (.int .i64 lv)
    have hk2 : KeepBut w (W3.setCell ⟨g, 6, none⟩ (.int .i64 lv)) g none := KeepBut.set_ hk 6 _
    have hb2 : Below g w (W3.setCell ⟨g, 6, none⟩ (.int .i64 lv)) := Below.setCell hb (p := ⟨g, 6, none⟩) (Nat.le_refl _) _
    refine sched_Build.skip (w' := W3.setCell ⟨g, 6, none⟩ (.int .i64 lv)) rfl rfl rfl (by go_simp) ?_
    refine ⟨⟨lv, hq2, hk2, hb2⟩, ?_⟩
    clear y0 y1 y2 y3 y4 y5 y6 y7 f6 hq hk hb hS0 hS1
    generalize W3.setCell ⟨g, 6, none⟩ (.int .i64 lv) = W4 at *
    have hq2 : W4.heap[g]? = some (.cells (sched_Build.pl kd pr A2 rates.length c2 per at_ left lv P7) 51 (0, 0)) := hq2
    refine sched_Build.norm (a' := { tmps := #[.pointer (some ⟨g, 0, none⟩), .int .i64 i, undef, undef, .int .i64 0, s5, s6, s7, s8, s9, s10, s11, s12, s13, s14, s15, s16, s17, s18, s19, s20, s21, s22, s23, s24, .bool true, .tuple #[.int .i64 lv, .int .i64 er], .pointer (some ⟨g, 0, none⟩), .pointer (some ⟨g, 0, none⟩), .pointer (some ⟨g, 0, none⟩), .pointer (some ⟨g, 5, none⟩), .int .i64 left, .pointer (some ⟨g, 0, none⟩), .pointer (some ⟨g, 0, none⟩), .pointer (some ⟨g, 0, none⟩), .pointer (some ⟨g, 4, none⟩), .int .i64 at_, .int .i64 (sched_Build.rt rates at_), .pointer (some ⟨g, 0, none⟩), .pointer (some ⟨g, 0, none⟩), .pointer (some ⟨g, 0, none⟩), .pointer (some ⟨g, 3, none⟩), .int .i64 per, .pointer (some ⟨g, 0, none⟩), .pointer (some ⟨g, 0, none⟩), .pointer (some ⟨g, 4, none⟩), .int .i64 at_, .int .i64 (wrap64 (per - at_)), .tuple #[.int .i64 lv, .int .i64 er], .int .i64 lv, .int .i64 er, .pointer (some ⟨g, 0, none⟩), .pointer (some ⟨g, 6, none⟩), undef, undef, undef, undef, undef, undef, undef, undef, undef, undef, undef], defers := [] }) (by kernel_rfl) ?_
    refine wpAnyH_done (by kernel_rfl) ?_ _
    obtain ⟨y0, y1, y2, y3, y4, y5, y6, y7⟩ := sched_Build.pl_cell hq2
    have HQ2 := Aside0.mk hq2
    have HK2 := Aside0.mk hk2
    have HB2 := Aside0.mk hb2
    clear hq2 hk2 hb2
    go_wp2
    repeat (go_quiet (fail); try go_wp2)
    go_ret
    exact ⟨by first | rfl | simp [*], HQ2.out, HK2.out, ⟨HB2.out.os, HB2.out.tape, HB2.out.output, HB2.out.size, HB2.out.block⟩⟩
  have tailF : ¬(at_ = 0 ∨ sched_Build.rt rates at_ ≠ sched_Build.rt rates (at_ - 1)) → ∀ (s5 s6 s7 s8 s9 s10 s11 s12 s13 s14 s15 s16 s17 s18 s19 s20 s21 s22 s23 s24 : Value) (W : World), W.heap[g]? = some (.cells (sched_Build.pl kd pr A2 rates.length c2 per at_ left level P7) 51 (0, 0)) → KeepBut w W g none → Below g w W → K2 { tmps := #[.pointer (some ⟨g, 0, none⟩), .int .i64 i, undef, undef, .int .i64 0, s5, s6, s7, s8, s9, s10, s11, s12, s13, s14, s15, s16, s17, s18, s19, s20, s21, s22, s23, s24, .bool false, undef, undef, undef, undef, undef, undef, undef, undef, undef, undef, undef, undef, undef, undef, undef, undef, undef, undef, undef, undef, undef, undef, undef, undef, undef, undef, undef, undef, undef, undef, undef, undef, undef, undef, undef, undef, undef, undef], defers := [] } W := by
    intro hc s5 s6 s7 s8 s9 s10 s11 s12 s13 s14 s15 s16 s17 s18 s19 s20 s21 s22 s23 s24 W hq2 hk2 hb2
    obtain rfl := HN.out hc
    clear hc
    refine hK2 _ _ ?_
    obtain ⟨y0, y1, y2, y3, y4, y5, y6, y7⟩ := sched_Build.pl_cell hq2
    have HQ2 := Aside0.mk hq2
    have HK2 := Aside0.mk hk2
    have HB2 := Aside0.mk hb2
    clear hq2 hk2 hb2
    go_wp2
    repeat (go_quiet (fail); try go_wp2)
    go_ret
    exact ⟨by first | rfl | simp [*], HQ2.out, HK2.out, ⟨HB2.out.os, HB2.out.tape, HB2.out.output, HB2.out.size, HB2.out.block⟩⟩
  have gl : g < w.heap.size := (Array.getElem?_eq_some_iff.1 HG.out).1
  have toS : ∀ W : World, Below w.heap.size w W → sched_Build.S w g kd pr A2 rates.length c2 per at_ left P7 W := fun W hb => ⟨level, (hb.block g gl).trans HG.out, KeepBut.of_below hb g none, hb.mono (Nat.le_of_lt gl)⟩
  have GL := Aside0.mk gl
  have TS := Aside0.mk toS
  have TT := Aside0.mk tailT
  have TF := Aside0.mk tailF
  clear gl toS tailT tailF
  have hS0 : Below w.heap.size w { w with drawn := w.drawn + 1 } := ⟨rfl, rfl, rfl, Nat.le_refl _, fun _ _ => rfl⟩
  refine wp_region_held (S := fun W1 => Below w.heap.size w W1) (by kernel_rfl) ?_
  by_cases c0 : at_ = 0
  · have qe : (at_ == 0) = true := beq_iff_eq.mpr c0
    have C0 := Aside0.mk c0
    clear c0 q0
    refine wpAnyH_take (i := 0) (v := .pointer (some ⟨g, 0, none⟩)) rfl (by kernel_rfl) (by kernel_rfl) (by kernel_rfl) (fun _ _ _ h => h) (Or.inl ⟨by kernel_rfl, fun W1 hS => by go_simp⟩) hS0 ?_
    refine wpAnyH_take (i := 1) (v := .pointer (some ⟨g, 0, none⟩)) rfl (by kernel_rfl) (by kernel_rfl) (by kernel_rfl) (fun _ _ _ h => h) (Or.inl ⟨by kernel_rfl, fun W1 hS => by go_simp⟩) hS0 ?_
    refine wpAnyH_take (i := 2) (v := .pointer (some ⟨g, 4, none⟩)) rfl (by kernel_rfl) (by kernel_rfl) (by kernel_rfl) (fun _ _ _ h => h) (Or.inl ⟨by kernel_rfl, fun W1 hS => by go_simp⟩) hS0 ?_
    refine wpAnyH_take (i := 3) (v := .int .i64 at_) rfl (by kernel_rfl) (by kernel_rfl) (by kernel_rfl) (fun _ _ _ h => h) (Or.inl ⟨by kernel_rfl, fun W1 hS => by have hq := (hS.block g GL.out).trans HG.out; obtain ⟨y0, y1, y2, y3, y4, y5, y6, y7⟩ := sched_Build.pl_cell hq; go_simp⟩) hS0 ?_
    refine wpAnyH_take (i := 4) (v := .bool true) rfl (by kernel_rfl) (by kernel_rfl) (by kernel_rfl) (fun _ _ _ h => h) (Or.inl ⟨by kernel_rfl, fun W1 hS => by go_simp⟩) hS0 ?_
    refine wpAnyH_take (i := 5) (v := .bool true) rfl (by kernel_rfl) (by kernel_rfl) (by kernel_rfl) (fun _ _ _ h => h) (Or.inl ⟨by kernel_rfl, fun W1 hS => by go_simp⟩) hS0 ?_
    refine wpAnyH_take (i := 6) (v := undef) rfl (by kernel_rfl) (by kernel_rfl) (by kernel_rfl) (fun _ _ _ h => h) (Or.inr ⟨by kernel_rfl, rfl⟩) hS0 ?_
    refine wpAnyH_take (i := 7) (v := undef) rfl (by kernel_rfl) (by kernel_rfl) (by kernel_rfl) (fun _ _ _ h => h) (Or.inr ⟨by kernel_rfl, rfl⟩) hS0 ?_
    refine wpAnyH_take (i := 8) (v := undef) rfl (by kernel_rfl) (by kernel_rfl) (by kernel_rfl) (fun _ _ _ h => h) (Or.inr ⟨by kernel_rfl, rfl⟩) hS0 ?_
    refine wpAnyH_take (i := 9) (v := undef) rfl (by kernel_rfl) (by kernel_rfl) (by kernel_rfl) (fun _ _ _ h => h) (Or.inr ⟨by kernel_rfl, rfl⟩) hS0 ?_
    refine wpAnyH_take (i := 10) (v := undef) rfl (by kernel_rfl) (by kernel_rfl) (by kernel_rfl) (fun _ _ _ h => h) (Or.inr ⟨by kernel_rfl, rfl⟩) hS0 ?_
    refine wpAnyH_take (i := 11) (v := undef) rfl (by kernel_rfl) (by kernel_rfl) (by kernel_rfl) (fun _ _ _ h => h) (Or.inr ⟨by kernel_rfl, rfl⟩) hS0 ?_
    refine wpAnyH_take (i := 12) (v := undef) rfl (by kernel_rfl) (by kernel_rfl) (by kernel_rfl) (fun _ _ _ h => h) (Or.inr ⟨by kernel_rfl, rfl⟩) hS0 ?_
    refine wpAnyH_take (i := 13) (v := undef) rfl (by kernel_rfl) (by kernel_rfl) (by kernel_rfl) (fun _ _ _ h => h) (Or.inr ⟨by kernel_rfl, rfl⟩) hS0 ?_
    refine wpAnyH_take (i := 14) (v := undef) rfl (by kernel_rfl) (by kernel_rfl) (by kernel_rfl) (fun _ _ _ h => h) (Or.inr ⟨by kernel_rfl, rfl⟩) hS0 ?_
    refine wpAnyH_take (i := 15) (v := undef) rfl (by kernel_rfl) (by kernel_rfl) (by kernel_rfl) (fun _ _ _ h => h) (Or.inr ⟨by kernel_rfl, rfl⟩) hS0 ?_
    refine wpAnyH_take (i := 16) (v := undef) rfl (by kernel_rfl) (by kernel_rfl) (by kernel_rfl) (fun _ _ _ h => h) (Or.inr ⟨by kernel_rfl, rfl⟩) hS0 ?_
    refine wpAnyH_take (i := 17) (v := undef) rfl (by kernel_rfl) (by kernel_rfl) (by kernel_rfl) (fun _ _ _ h => h) (Or.inr ⟨by kernel_rfl, rfl⟩) hS0 ?_
    refine wpAnyH_take (i := 18) (v := undef) rfl (by kernel_rfl) (by kernel_rfl) (by kernel_rfl) (fun _ _ _ h => h) (Or.inr ⟨by kernel_rfl, rfl⟩) hS0 ?_
    refine wpAnyH_take (i := 19) (v := undef) rfl (by kernel_rfl) (by kernel_rfl) (by kernel_rfl) (fun _ _ _ h => h) (Or.inr ⟨by kernel_rfl, rfl⟩) hS0 ?_
    refine wpAnyH_take (i := 20) (v := .bool true) rfl (by kernel_rfl) (by kernel_rfl) (by kernel_rfl) (fun _ _ _ h => h) (Or.inl ⟨by kernel_rfl, fun W1 hS => by go_simp⟩) hS0 ?_
    refine sched_Build.norm (a' := { tmps := #[.pointer (some ⟨g, 0, none⟩), .int .i64 i, undef, undef, .int .i64 0, .pointer (some ⟨g, 0, none⟩), .pointer (some ⟨g, 0, none⟩), .pointer (some ⟨g, 4, none⟩), .int .i64 at_, .bool true, .bool true, undef, undef, undef, undef, undef, undef, undef, undef, undef, undef, undef, undef, undef, undef, .bool true, undef, undef, undef, undef, undef, undef, undef, undef, undef, undef, undef, undef, undef, undef, undef, undef, undef, undef, undef, undef, undef, undef, undef, undef, undef, undef, undef, undef, undef, undef, undef, undef, undef, undef, undef, undef, undef, undef], defers := [] }) (by kernel_rfl) ?_
    refine wpAnyH_done (by kernel_rfl) ?_ _
    exact TT.out (Or.inl C0.out) _ _ _ _ _ _ _ _ _ _ _ _ _ _ _ _ _ _ _ _ _ (TS.out _ hS0)
  · have qe : (at_ == 0) = false := beq_eq_false_iff_ne.mpr c0
    have C0 := Aside0.mk c0
    have q0' : IntKind.i64.wrap (at_ - 1) = at_ - 1 := by rw [i64_w]; exact q0
    have hm : 0 ≤ at_ - 1 := by have := HA.out; omega
    have HM := Aside0.mk hm
    clear c0 hm
    refine wpAnyH_take (i := 0) (v := .pointer (some ⟨g, 0, none⟩)) rfl (by kernel_rfl) (by kernel_rfl) (by kernel_rfl) (fun _ _ _ h => h) (Or.inl ⟨by kernel_rfl, fun W1 hS => by go_simp⟩) hS0 ?_
    refine wpAnyH_take (i := 1) (v := .pointer (some ⟨g, 0, none⟩)) rfl (by kernel_rfl) (by kernel_rfl) (by kernel_rfl) (fun _ _ _ h => h) (Or.inl ⟨by kernel_rfl, fun W1 hS => by go_simp⟩) hS0 ?_
    refine wpAnyH_take (i := 2) (v := .pointer (some ⟨g, 4, none⟩)) rfl (by kernel_rfl) (by kernel_rfl) (by kernel_rfl) (fun _ _ _ h => h) (Or.inl ⟨by kernel_rfl, fun W1 hS => by go_simp⟩) hS0 ?_
    refine wpAnyH_take (i := 3) (v := .int .i64 at_) rfl (by kernel_rfl) (by kernel_rfl) (by kernel_rfl) (fun _ _ _ h => h) (Or.inl ⟨by kernel_rfl, fun W1 hS => by have hq := (hS.block g GL.out).trans HG.out; obtain ⟨y0, y1, y2, y3, y4, y5, y6, y7⟩ := sched_Build.pl_cell hq; go_simp⟩) hS0 ?_
    refine wpAnyH_take (i := 4) (v := .bool false) rfl (by kernel_rfl) (by kernel_rfl) (by kernel_rfl) (fun _ _ _ h => h) (Or.inl ⟨by kernel_rfl, fun W1 hS => by go_simp⟩) hS0 ?_
    refine wpAnyH_take (i := 5) (v := .bool false) rfl (by kernel_rfl) (by kernel_rfl) (by kernel_rfl) (fun _ _ _ h => h) (Or.inl ⟨by kernel_rfl, fun W1 hS => by go_simp⟩) hS0 ?_
    refine wpAnyH_take (i := 6) (v := .pointer (some ⟨g, 0, none⟩)) rfl (by kernel_rfl) (by kernel_rfl) (by kernel_rfl) (fun _ _ _ h => h) (Or.inl ⟨by kernel_rfl, fun W1 hS => by go_simp⟩) hS0 ?_
    refine wpAnyH_take (i := 7) (v := .pointer (some ⟨g, 0, none⟩)) rfl (by kernel_rfl) (by kernel_rfl) (by kernel_rfl) (fun _ _ _ h => h) (Or.inl ⟨by kernel_rfl, fun W1 hS => by go_simp⟩) hS0 ?_
    refine wpAnyH_take (i := 8) (v := .pointer (some ⟨g, 0, none⟩)) rfl (by kernel_rfl) (by kernel_rfl) (by kernel_rfl) (fun _ _ _ h => h) (Or.inl ⟨by kernel_rfl, fun W1 hS => by go_simp⟩) hS0 ?_
    refine wpAnyH_take (i := 9) (v := .pointer (some ⟨g, 4, none⟩)) rfl (by kernel_rfl) (by kernel_rfl) (by kernel_rfl) (fun _ _ _ h => h) (Or.inl ⟨by kernel_rfl, fun W1 hS => by go_simp⟩) hS0 ?_
    refine wpAnyH_take (i := 10) (v := .int .i64 at_) rfl (by kernel_rfl) (by kernel_rfl) (by kernel_rfl) (fun _ _ _ h => h) (Or.inl ⟨by kernel_rfl, fun W1 hS => by have hq := (hS.block g GL.out).trans HG.out; obtain ⟨y0, y1, y2, y3, y4, y5, y6, y7⟩ := sched_Build.pl_cell hq; go_simp⟩) hS0 ?_
    refine wpAnyH_take (i := 12) (v := .pointer (some ⟨g, 0, none⟩)) rfl (by kernel_rfl) (by kernel_rfl) (by kernel_rfl) (fun _ _ _ h => h) (Or.inl ⟨by kernel_rfl, fun W1 hS => by go_simp⟩) hS0 ?_
    refine wpAnyH_take (i := 13) (v := .pointer (some ⟨g, 0, none⟩)) rfl (by kernel_rfl) (by kernel_rfl) (by kernel_rfl) (fun _ _ _ h => h) (Or.inl ⟨by kernel_rfl, fun W1 hS => by go_simp⟩) hS0 ?_
    refine wpAnyH_take (i := 14) (v := .pointer (some ⟨g, 0, none⟩)) rfl (by kernel_rfl) (by kernel_rfl) (by kernel_rfl) (fun _ _ _ h => h) (Or.inl ⟨by kernel_rfl, fun W1 hS => by go_simp⟩) hS0 ?_
    refine wpAnyH_take (i := 15) (v := .pointer (some ⟨g, 4, none⟩)) rfl (by kernel_rfl) (by kernel_rfl) (by kernel_rfl) (fun _ _ _ h => h) (Or.inl ⟨by kernel_rfl, fun W1 hS => by go_simp⟩) hS0 ?_
    refine wpAnyH_take (i := 16) (v := .int .i64 at_) rfl (by kernel_rfl) (by kernel_rfl) (by kernel_rfl) (fun _ _ _ h => h) (Or.inl ⟨by kernel_rfl, fun W1 hS => by have hq := (hS.block g GL.out).trans HG.out; obtain ⟨y0, y1, y2, y3, y4, y5, y6, y7⟩ := sched_Build.pl_cell hq; go_simp⟩) hS0 ?_
    refine wpAnyH_take (i := 17) (v := .int .i64 (at_ - 1)) rfl (by kernel_rfl) (by kernel_rfl) (by kernel_rfl) (fun _ _ _ h => h) (Or.inl ⟨by kernel_rfl, fun W1 hS => by go_simp⟩) hS0 ?_
    obtain ⟨bn, hbn⟩ : ∃ bn : Bool, (sched_Build.rt rates at_ != sched_Build.rt rates (at_ - 1)) = bn := ⟨_, rfl⟩
    have FIN : ∀ W : World, Below w.heap.size w W → K2 { tmps := #[.pointer (some ⟨g, 0, none⟩), .int .i64 i, undef, undef, .int .i64 0, .pointer (some ⟨g, 0, none⟩), .pointer (some ⟨g, 0, none⟩), .pointer (some ⟨g, 4, none⟩), .int .i64 at_, .bool false, .bool false, .pointer (some ⟨g, 0, none⟩), .pointer (some ⟨g, 0, none⟩), .pointer (some ⟨g, 0, none⟩), .pointer (some ⟨g, 4, none⟩), .int .i64 at_, .int .i64 (sched_Build.rt rates at_), .pointer (some ⟨g, 0, none⟩), .pointer (some ⟨g, 0, none⟩), .pointer (some ⟨g, 0, none⟩), .pointer (some ⟨g, 4, none⟩), .int .i64 at_, .int .i64 (at_ - 1), .int .i64 (sched_Build.rt rates (at_ - 1)), .bool bn, .bool bn, undef, undef, undef, undef, undef, undef, undef, undef, undef, undef, undef, undef, undef, undef, undef, undef, undef, undef, undef, undef, undef, undef, undef, undef, undef, undef, undef, undef, undef, undef, undef, undef, undef, undef, undef, undef, undef, undef], defers := [] } W := by
      intro W hW
      cases bn with
      | true =>
        exact TT.out (Or.inr (bne_iff_ne.1 hbn)) _ _ _ _ _ _ _ _ _ _ _ _ _ _ _ _ _ _ _ _ _ (TS.out _ hW)
      | false =>
        have e : sched_Build.rt rates at_ = sched_Build.rt rates (at_ - 1) := by simpa using hbn
        exact TF.out (fun h => h.elim C0.out (fun n => n e)) _ _ _ _ _ _ _ _ _ _ _ _ _ _ _ _ _ _ _ _ _ ((hW.block g GL.out).trans HG.out) (KeepBut.of_below hW g none) (hW.mono (Nat.le_of_lt GL.out))
    have FN := Aside0.mk FIN
    clear FIN
    refine sched_Build.norm (a' := { tmps := #[.pointer (some ⟨g, 0, none⟩), .int .i64 i, undef, undef, .int .i64 0, .pointer (some ⟨g, 0, none⟩), .pointer (some ⟨g, 0, none⟩), .pointer (some ⟨g, 4, none⟩), .int .i64 at_, .bool false, .bool false, .pointer (some ⟨g, 0, none⟩), .pointer (some ⟨g, 0, none⟩), .pointer (some ⟨g, 0, none⟩), .pointer (some ⟨g, 4, none⟩), .int .i64 at_, undef, .pointer (some ⟨g, 0, none⟩), .pointer (some ⟨g, 0, none⟩), .pointer (some ⟨g, 0, none⟩), .pointer (some ⟨g, 4, none⟩), .int .i64 at_, .int .i64 (at_ - 1), undef, undef, undef, undef, undef, undef, undef, undef, undef, undef, undef, undef, undef, undef, undef, undef, undef, undef, undef, undef, undef, undef, undef, undef, undef, undef, undef, undef, undef, undef, undef, undef, undef, undef, undef, undef, undef, undef, undef, undef, undef], defers := [] }) (by kernel_rfl) ?_
    refine wpAnyH_all (rs := [11]) (by kernel_rfl) (by simp) ?_
    intro ix hix
    obtain rfl : ix = 11 := by simpa using hix
    clear hix
    refine sched_Build.callR #[] rfl (by kernel_rfl) Try.func27 (by kernel_rfl) rfl #[.pointer (some ⟨g, 0, none⟩), .int .i64 at_] rfl (by kernel_rfl) (by kernel_rfl) ?_
    refine (RR.out _ (TS.out _ hS0) at_ HA.out).mono ?_
    rintro e W2 ⟨rfl, hbb⟩
    have hS1 : Below w.heap.size w W2 := hS0.trans (hbb.mono hS0.size)
    refine ⟨_, rfl, hS1, ?_⟩
    clear hbb
    refine wpAnyH_all (rs := [18]) (by kernel_rfl) (by simp) ?_
    intro ix hix
    obtain rfl : ix = 18 := by simpa using hix
    clear hix
    refine sched_Build.callR #[] rfl (by kernel_rfl) Try.func27 (by kernel_rfl) rfl #[.pointer (some ⟨g, 0, none⟩), .int .i64 (at_ - 1)] rfl (by kernel_rfl) (by kernel_rfl) ?_
    refine (RR.out _ (TS.out _ hS1) (at_ - 1) HM.out).mono ?_
    rintro e W3 ⟨rfl, hbb⟩
    have hS2 : Below w.heap.size w W3 := hS1.trans (hbb.mono hS1.size)
    refine ⟨_, rfl, hS2, ?_⟩
    clear hbb
    refine wpAnyH_take (i := 19) (v := .bool bn) rfl (by kernel_rfl) (by kernel_rfl) (by kernel_rfl) (fun _ _ _ h => h) (Or.inl ⟨by kernel_rfl, fun W1 hS => by go_simp⟩) hS2 ?_
    refine wpAnyH_take (i := 20) (v := .bool bn) rfl (by kernel_rfl) (by kernel_rfl) (by kernel_rfl) (fun _ _ _ h => h) (Or.inl ⟨by kernel_rfl, fun W1 hS => by go_simp⟩) hS2 ?_
    refine sched_Build.norm (a' := { tmps := #[.pointer (some ⟨g, 0, none⟩), .int .i64 i, undef, undef, .int .i64 0, .pointer (some ⟨g, 0, none⟩), .pointer (some ⟨g, 0, none⟩), .pointer (some ⟨g, 4, none⟩), .int .i64 at_, .bool false, .bool false, .pointer (some ⟨g, 0, none⟩), .pointer (some ⟨g, 0, none⟩), .pointer (some ⟨g, 0, none⟩), .pointer (some ⟨g, 4, none⟩), .int .i64 at_, .int .i64 (sched_Build.rt rates at_), .pointer (some ⟨g, 0, none⟩), .pointer (some ⟨g, 0, none⟩), .pointer (some ⟨g, 0, none⟩), .pointer (some ⟨g, 4, none⟩), .int .i64 at_, .int .i64 (at_ - 1), .int .i64 (sched_Build.rt rates (at_ - 1)), .bool bn, .bool bn, undef, undef, undef, undef, undef, undef, undef, undef, undef, undef, undef, undef, undef, undef, undef, undef, undef, undef, undef, undef, undef, undef, undef, undef, undef, undef, undef, undef, undef, undef, undef, undef, undef, undef, undef, undef, undef, undef], defers := [] }) (by kernel_rfl) ?_
    refine wpAnyH_done (by kernel_rfl) ?_ _
    exact FN.out _ hS2
section
open Go.Proofs.YtchpeobenlnemaaW.PrintLast
/-- A call of a bound method that stands in a temporary. -/
theorem sched_Build.goesB {P : Program} {ops : Array Oper} {Q : Exit → Act → World → Prop} {rest : List Oper} {oi : Oper} {a : Act} {w : World} (N : Option Tmp) (hd : oi.dst = N) (hg : oi.guard = none) {f : FuncId} {fn : Func} {c : Operand} {ar : Array Operand} {ts : Array TypeId} {bs : Array Value} (hf : P.funcs[f]? = some fn) (hname : (fn.name == "runtime.NumGoroutine") = false) (hb : fn.body.isSome = true) (args : Array Value)
    (hop : oi.op = .call { callee := .value c, args := ar, argTypes := ts }) (hc : a.eval c = .func (.func f) bs #[]) (hargs : bs ++ ar.map a.eval = args)
    (h : Calls P f args w fun e w' => ∃ v, e = .returned v ∧ wpList P ops Q rest (a.put N v) w') : wpList P ops Q (oi :: rest) a w := by
  refine wpList_plain hg fun K hK => ?_
  have he := enters_ hf hname hb args w
  have hrun : (execOp a.eval oi).run P w = .ok (.enter f args) w := by
    unfold execOp
    simp [hop, resolve, Deferred.ofValue, invoke, hc, hargs, he]
  unfold Oper.wp
  rw [hrun, Oper.upon_enter]
  refine h.mono fun e w'' hh => ?_
  obtain ⟨v, rfl, hk⟩ := hh
  subst hd
  exact hK _ _ hk
end
theorem sched_Build.grown (W : World) (b j : Nat) (v : Value) : W.grownBy (W.setCell ⟨b, j, none⟩ v) (some b) := ⟨rfl, rfl, rfl, by simp [World.setCell], fun k _ hk => Below.heap_setCell _ _ _ k (fun e => hk (by rw [e]))⟩
/-- What is paid ahead of the last period, and the level payment then. -/
def sched_Build.pay (k : Nat) (kd : Int) (rates parts : List Int) (per at_ left level i : Int) : Option (Int × Int) :=
  if kd = 1 then (if at_ = 0 ∨ sched_Build.rt rates at_ ≠ sched_Build.rt rates (at_ - 1) then (sched_Level.f k left (sched_Build.rt rates at_) (wrap64 (per - at_))).bind fun v => some (mn v.1 (wrap64 (left + i)), v.1) else some (mn level (wrap64 (left + i)), level))
  else if kd = 2 then some (wrap64 (i + rd parts at_), level) else if kd = 3 then some (i, level) else if kd = 4 then some (0, level) else none
/-- The rows from a period on. -/
def sched_Build.rows (k : Nat) (kd : Int) (rates parts : List Int) (per : Int) : Nat → Int → Int → Int → List S43 → Option (List S43 × Int)
  | 0, _, _, _, _ => none
  | n + 1, at_, left, level, out =>
    if at_ < per then
      (rate_Interest.f k left (sched_Build.rt rates at_)).bind fun v =>
        if v.2 = 0 then
          (if at_ < per - 1 then sched_Build.pay k kd rates parts per at_ left level v.1 else some (wrap64 (left + v.1), level)).bind fun q =>
            if mx (wrap64 (left - wrap64 (q.1 - v.1))) q.1 > 10000000000000 then some ([], 3)
            else sched_Build.rows k kd rates parts per n (at_ + 1) (wrap64 (left - wrap64 (q.1 - v.1))) q.2 (out ++ [⟨v.1, q.1, wrap64 (q.1 - v.1), wrap64 (left - wrap64 (q.1 - v.1))⟩])
        else some ([], v.2)
    else some (out, 0)
def sched_Build.ok (k : Nat) (kd : Int) (rates : List Int) (per : Int) : Prop := 700 ≤ k ∧ 1 ≤ kd ∧ kd ≤ 4 ∧ 1 ≤ per ∧ per ≤ 600 ∧ 1 ≤ rates.length ∧ rates.length ≤ 600
instance (k : Nat) (kd : Int) (rates : List Int) (per : Int) : Decidable (sched_Build.ok k kd rates per) := inferInstanceAs (Decidable (_ ∧ _ ∧ _ ∧ _ ∧ _ ∧ _ ∧ _))
def sched_Build.f (k : Nat) (a0_0 : Int) (a0_1 : Int) (l0_2 : List Int) (a0_3 : Int) : Option (List S43 × Int) :=
  (sched_Check.f k a0_0 a0_1 l0_2 a0_3).bind fun e => if e = 0 then
    (if sched_Build.ok k a0_0 l0_2 a0_3 then (money_Split.f k a0_1 (List.replicate a0_3.toNat 1)).bind fun sp => if sp.2 = 0 ∧ (sp.1.length : Int) = a0_3 then sched_Build.rows k a0_0 l0_2 sp.1 a0_3 (a0_3.toNat + 1) 0 a0_1 0 [] else none else none)
    else some ([], e)
set_option maxHeartbeats 4000000 in
set_option maxRecDepth 100000 in
theorem sched_Build.calls (k : Nat) (a0_0 : Int) (a0_1 : Int) (A0_2 : Option Addr) (c0_2 : Nat) (l0_2 : List Int) (a0_3 : Int) (r1 : List S43) (r2 : Int) (w : World) (hr0_2 : Kd.C (Kd.int .i64) w A0_2 l0_2.length l0_2) (hc0_2 : l0_2.length ≤ c0_2) (h : sched_Build.f k a0_0 a0_1 l0_2 a0_3 = some (r1, r2)) :
    Calls Try.prog 11 #[.agg #[.int .i64 a0_0, .int .i64 a0_1, .slice A0_2 l0_2.length c0_2, .int .i64 a0_3]] w fun e w' => ∃ v0_ : Value, e = .returned (.tuple #[v0_, .int .i64 r2]) ∧ Kd.R k43 43 w' w.heap.size (fun _ => True) v0_ r1 ∧ Below w.heap.size w w' := by
  unfold sched_Build.f at h
  obtain ⟨e0, he, h⟩ := Option.bind_eq_some_iff.1 h
  have HE := Aside0.mk he
  have HR := Aside0.mk hr0_2
  have HC := Aside0.mk hc0_2
  clear he hr0_2 hc0_2
  obtain ⟨N, hN⟩ : ∃ N : Nat, N = w.heap.size := ⟨_, rfl⟩
  go_enter Try.func11, Try.ntmps11
  go_upto_region 1 with (fail)
  have b1 := blk_new w (.cells #[.int .i64 a0_0, .int .i64 a0_1, .slice A0_2 l0_2.length c0_2, .int .i64 a0_3] 27 (0, 0))
  have y1 := below_alloc (Below.refl w.heap.size w) (.cells #[.int .i64 a0_0, .int .i64 a0_1, .slice A0_2 l0_2.length c0_2, .int .i64 a0_3] 27 (0, 0))
  have C1 := Aside0.mk (Kd.C_below HR.out y1)
  have s1 := World.size_alloc w (.cells #[.int .i64 a0_0, .int .i64 a0_1, .slice A0_2 l0_2.length c0_2, .int .i64 a0_3] 27 (0, 0))
  generalize w.alloc (.cells #[.int .i64 a0_0, .int .i64 a0_1, .slice A0_2 l0_2.length c0_2, .int .i64 a0_3] 27 (0, 0)) = W1 at *
  rw [← hN] at b1 y1 s1 ⊢
  have z0 := (blk_cell b1 0).trans rfl
  have z1 := (blk_cell b1 1).trans rfl
  have z2 := (blk_cell b1 2).trans rfl
  have z3 := (blk_cell b1 3).trans rfl
  have B1 := Aside0.mk b1
  have Y1 := Aside0.mk y1
  have S1 := Aside0.mk s1
  have HN := Aside0.mk hN
  clear b1 y1 s1 hN
  by_cases c0 : e0 = 0
  · rw [if_pos c0] at h
    subst c0
    go_upto_region 4 with (first | (go_at_call 15; go_must ((with_reducible refine (sched_Check.calls k a0_0 a0_1 A0_2 c0_2 l0_2 a0_3 0 _ C1.out HC.out HE.out).mono ?_)); rintro e W2 ⟨rfl, hb2⟩))
    have lt1 : N < W1.heap.size := (Array.getElem?_eq_some_iff.1 B1.out).1
    have B2 := Aside0.mk ((hb2.block N lt1).trans B1.out)
    have Y2 := Aside0.mk (Y1.out.trans (hb2.mono (Nat.le_of_lt lt1)))
    have C2 := Aside0.mk (Kd.C_below C1.out hb2)
    clear z0 z1 z2 z3 hb2 B1 Y1 C1 S1
    have z0 := (blk_cell B2.out 0).trans rfl
    have z1 := (blk_cell B2.out 1).trans rfl
    have z2 := (blk_cell B2.out 2).trans rfl
    have z3 := (blk_cell B2.out 3).trans rfl
    go_upto_region 5 with (fail)
    split at h
    case isFalse => exact absurd h (by simp)
    rename_i hok
    obtain ⟨⟨parts, e1⟩, hsp, h⟩ := Option.bind_eq_some_iff.1 h
    dsimp only at h
    split at h
    case isFalse => exact absurd h (by simp)
    rename_i hp
    obtain ⟨hp1, hp2⟩ := hp
    subst hp1
    have HOK := Aside0.mk hok
    have HSP := Aside0.mk hsp
    have HP2 := Aside0.mk hp2
    have HH := Aside0.mk h
    clear hok hsp hp2 h z0 z1 z2 z3
    have lt2 : N < W2.heap.size := (Array.getElem?_eq_some_iff.1 B2.out).1
    have P3 : (W2.alloc (.cells (sched_Build.pl a0_0 a0_1 A0_2 l0_2.length c0_2 a0_3 0 a0_1 0 (.slice none 0 0)) 51 (0, 0))).heap[W2.heap.size]? = some (.cells (sched_Build.pl a0_0 a0_1 A0_2 l0_2.length c0_2 a0_3 0 a0_1 0 (.slice none 0 0)) 51 (0, 0)) := blk_new W2 _
    have y3 := below_alloc (Below.refl W2.heap.size W2) (.cells (sched_Build.pl a0_0 a0_1 A0_2 l0_2.length c0_2 a0_3 0 a0_1 0 (.slice none 0 0)) 51 (0, 0))
    have s3 := World.size_alloc W2 (.cells (sched_Build.pl a0_0 a0_1 A0_2 l0_2.length c0_2 a0_3 0 a0_1 0 (.slice none 0 0)) 51 (0, 0))
    unfold sched_Build.pl at P3 y3 s3
    generalize W2.alloc (.cells #[.int .i64 a0_0, .int .i64 a0_1, .slice A0_2 l0_2.length c0_2, .int .i64 a0_3, .int .i64 0, .int .i64 a0_1, .int .i64 0, .slice none 0 0] 51 (0, 0)) = W3 at *
    have B3 := (y3.block N lt2).trans B2.out
    have Y3 := Aside0.mk (Y2.out.trans (y3.mono (Nat.le_of_lt lt2)))
    have C3 := Aside0.mk (Kd.C_below C2.out y3)
    obtain ⟨g, hg⟩ : ∃ g, g = W2.heap.size := ⟨_, rfl⟩
    rw [← hg] at P3 s3 lt2 ⊢
    have G3 := Aside0.mk s3
    have NG := Aside0.mk lt2
    have PP := Aside0.mk P3
    have BB := Aside0.mk B3
    clear y3 hg C2 Y2 B2 s3 lt2 P3 B3
    have hS0 : (∃ P7, ({ W3 with drawn := W3.drawn + 1 } : World).heap[g]? = some (.cells (sched_Build.pl a0_0 a0_1 A0_2 l0_2.length c0_2 a0_3 0 a0_1 0 P7) 51 (0, 0))) ∧ ({ W3 with drawn := W3.drawn + 1 } : World).heap[N]? = some (.cells #[.int .i64 a0_0, .int .i64 a0_1, .slice A0_2 l0_2.length c0_2, .int .i64 a0_3] 27 (0, 0)) ∧ Below N w { W3 with drawn := W3.drawn + 1 } := ⟨⟨_, PP.out⟩, BB.out, Y3.out.drew⟩
    refine wp_region_held (S := fun W => (∃ P7, W.heap[g]? = some (.cells (sched_Build.pl a0_0 a0_1 A0_2 l0_2.length c0_2 a0_3 0 a0_1 0 P7) 51 (0, 0))) ∧ W.heap[N]? = some (.cells #[.int .i64 a0_0, .int .i64 a0_1, .slice A0_2 l0_2.length c0_2, .int .i64 a0_3] 27 (0, 0)) ∧ Below N w W) (by kernel_rfl) ?_
    refine wpAnyH_take (i := 0) (v := .pointer (some ⟨g, 0, none⟩)) rfl (by kernel_rfl) (by kernel_rfl) (by kernel_rfl) (fun _ _ _ h => h) (Or.inl ⟨by kernel_rfl, fun W1 hS => by go_simp⟩) hS0 ?_
    refine wpAnyH_take (i := 1) (v := .pointer (some ⟨N, 1, none⟩)) rfl (by kernel_rfl) (by kernel_rfl) (by kernel_rfl) (fun _ _ _ h => h) (Or.inl ⟨by kernel_rfl, fun W1 hS => by go_simp⟩) hS0 ?_
    refine wpAnyH_take (i := 2) (v := .int .i64 a0_1) rfl (by kernel_rfl) (by kernel_rfl) (by kernel_rfl) (fun _ _ _ h => h) (Or.inl ⟨by kernel_rfl, fun W1 hS => by have y1 : W1.cell? ⟨N, 1, none⟩ = some (.int .i64 a0_1) := (blk_cell hS.2.1 1).trans rfl; have y3 : W1.cell? ⟨N, 3, none⟩ = some (.int .i64 a0_3) := (blk_cell hS.2.1 3).trans rfl; go_simp⟩) hS0 ?_
    refine wpAnyH_take (i := 4) (v := .pointer (some ⟨N, 3, none⟩)) rfl (by kernel_rfl) (by kernel_rfl) (by kernel_rfl) (fun _ _ _ h => h) (Or.inl ⟨by kernel_rfl, fun W1 hS => by go_simp⟩) hS0 ?_
    refine wpAnyH_take (i := 5) (v := .int .i64 a0_3) rfl (by kernel_rfl) (by kernel_rfl) (by kernel_rfl) (fun _ _ _ h => h) (Or.inl ⟨by kernel_rfl, fun W1 hS => by have y1 : W1.cell? ⟨N, 1, none⟩ = some (.int .i64 a0_1) := (blk_cell hS.2.1 1).trans rfl; have y3 : W1.cell? ⟨N, 3, none⟩ = some (.int .i64 a0_3) := (blk_cell hS.2.1 3).trans rfl; go_simp⟩) hS0 ?_
    refine wpAnyH_all (rs := [3]) (by kernel_rfl) (by simp) ?_
    intro ix hix
    obtain rfl : ix = 3 := by simpa using hix
    clear hix
    refine sched_Build.step (v := .slice (some ⟨W3.heap.size, 0, none⟩) 1 1) (w' := ({ W3 with drawn := W3.drawn + 1 } : World).alloc (.cells #[.int .i64 1] 2)) rfl rfl (by go_simp) ?_
    have y4 := below_alloc (Below.refl ({ W3 with drawn := W3.drawn + 1 } : World).heap.size { W3 with drawn := W3.drawn + 1 }) (.cells #[.int .i64 1] 2)
    have CL : Kd.C (Kd.int .i64) (({ W3 with drawn := W3.drawn + 1 } : World).alloc (.cells #[.int .i64 1] 2)) (some ⟨W3.heap.size, 0, none⟩) 1 [1] := by
      have o := World.ownsRow_lit (base := W3.heap.size) (e := 2) (size := 1) { W3 with drawn := W3.drawn + 1 } #[Value.int .i64 1] 1 (Nat.le_refl _) (by decide) rfl
      exact (Kd.R_reads' (Kd.R_of_own (xs := [1]) (ok := fun _ => True) (h1 := fun _ => rfl) o (fun _ _ => trivial))).2.2
    have g3 := G3.out
    have hS1 : (∃ P7, (({ W3 with drawn := W3.drawn + 1 } : World).alloc (.cells #[.int .i64 1] 2)).heap[g]? = some (.cells (sched_Build.pl a0_0 a0_1 A0_2 l0_2.length c0_2 a0_3 0 a0_1 0 P7) 51 (0, 0))) ∧ (({ W3 with drawn := W3.drawn + 1 } : World).alloc (.cells #[.int .i64 1] 2)).heap[N]? = some (.cells #[.int .i64 a0_0, .int .i64 a0_1, .slice A0_2 l0_2.length c0_2, .int .i64 a0_3] 27 (0, 0)) ∧ Below N w (({ W3 with drawn := W3.drawn + 1 } : World).alloc (.cells #[.int .i64 1] 2)) :=
      ⟨⟨_, (y4.block g (by show g < W3.heap.size; omega)).trans PP.out⟩, (y4.block N (by show N < W3.heap.size; have := NG.out; omega)).trans BB.out, hS0.2.2.trans (y4.mono (by show N ≤ W3.heap.size; have := NG.out; omega))⟩
    refine ⟨hS1, ?_⟩
    refine wpAnyH_all (rs := [6]) (by kernel_rfl) (by simp) ?_
    intro ix hix
    obtain rfl : ix = 6 := by simpa using hix
    clear hix
    clear y4 g3
    have L3 := Aside0.mk (show W3.heap.size ≤ (({ W3 with drawn := W3.drawn + 1 } : World).alloc (.cells #[.int .i64 1] 2)).heap.size by rw [World.size_alloc]; exact Nat.le_succ _)
    generalize (({ W3 with drawn := W3.drawn + 1 } : World).alloc (.cells #[.int .i64 1] 2)) = W4 at *
    have hrep : slices_Repeat_int64_int64.f k [1] a0_3 = some (List.replicate a0_3.toNat 1) := by
      unfold slices_Repeat_int64_int64.f
      rw [if_pos ⟨HOK.out.1, rfl, HOK.out.2.2.2.1, HOK.out.2.2.2.2.1⟩]
    refine sched_Build.callR #[] rfl (by kernel_rfl) Try.func22 (by kernel_rfl) rfl #[.slice (some ⟨W3.heap.size, 0, none⟩) 1 1, .int .i64 a0_3] rfl (by kernel_rfl) (by kernel_rfl) ?_
    refine (slices_Repeat_int64_int64.calls k (some ⟨W3.heap.size, 0, none⟩) 1 [1] a0_3 (List.replicate a0_3.toNat 1) W4 CL (Nat.le_refl 1) hrep).mono ?_
    rintro e W5 ⟨v0, rfl, hR5, hb5⟩
    obtain ⟨A5, c5, rfl, hle5, hC5⟩ := Kd.R_reads hR5
    have lt4 : N < W4.heap.size := (Array.getElem?_eq_some_iff.1 hS1.2.1).1
    have gt4 : g < W4.heap.size := by
      obtain ⟨P7, hq⟩ := hS1.1
      exact (Array.getElem?_eq_some_iff.1 hq).1
    have hS2 : (∃ P7, W5.heap[g]? = some (.cells (sched_Build.pl a0_0 a0_1 A0_2 l0_2.length c0_2 a0_3 0 a0_1 0 P7) 51 (0, 0))) ∧ W5.heap[N]? = some (.cells #[.int .i64 a0_0, .int .i64 a0_1, .slice A0_2 l0_2.length c0_2, .int .i64 a0_3] 27 (0, 0)) ∧ Below N w W5 := by
      obtain ⟨⟨P7, hq⟩, hn, hb⟩ := hS1
      exact ⟨⟨P7, (hb5.block g gt4).trans hq⟩, (hb5.block N lt4).trans hn, hb.trans (hb5.mono (Nat.le_of_lt lt4))⟩
    refine ⟨_, rfl, hS2, ?_⟩
    have lt5 : N < W5.heap.size := Nat.lt_of_lt_of_le lt4 hb5.size
    have gt5 : g < W5.heap.size := Nat.lt_of_lt_of_le gt4 hb5.size
    clear hS0 hS1 hR5 CL hrep lt4 gt4 hb5
    refine wpAnyH_all (rs := [7]) (by kernel_rfl) (by simp) ?_
    intro ix hix
    obtain rfl : ix = 7 := by simpa using hix
    clear hix
    refine sched_Build.callR #[] rfl (by kernel_rfl) Try.func21 (by kernel_rfl) rfl #[.int .i64 a0_1, .slice A5 (List.replicate a0_3.toNat (1 : Int)).length c5] rfl (by kernel_rfl) (by kernel_rfl) ?_
    refine (money_Split.calls k a0_1 A5 c5 (List.replicate a0_3.toNat 1) parts 0 W5 hC5 hle5 HSP.out).mono ?_
    rintro e W6 ⟨v6, rfl, hR6, hb6⟩
    obtain ⟨A6, c6, rfl, hle6, hC6⟩ := Kd.R_reads hR6
    have hS3 : (∃ P7, W6.heap[g]? = some (.cells (sched_Build.pl a0_0 a0_1 A0_2 l0_2.length c0_2 a0_3 0 a0_1 0 P7) 51 (0, 0))) ∧ W6.heap[N]? = some (.cells #[.int .i64 a0_0, .int .i64 a0_1, .slice A0_2 l0_2.length c0_2, .int .i64 a0_3] 27 (0, 0)) ∧ Below N w W6 := by
      obtain ⟨⟨P7, hq⟩, hn, hb⟩ := hS2
      exact ⟨⟨P7, (hb6.block g gt5).trans hq⟩, (hb6.block N lt5).trans hn, hb.trans (hb6.mono (Nat.le_of_lt lt5))⟩
    refine ⟨_, rfl, hS3, ?_⟩
    have o6 := Kd.own_of_R hR6
    clear hS2 hC5 hle5
    refine wpAnyH_take (i := 8) (v := .tuple #[.slice A6 parts.length c6, .int .i64 0]) rfl (by kernel_rfl) (by kernel_rfl) (by kernel_rfl) (fun _ _ _ h => h) (Or.inl ⟨by kernel_rfl, fun W1 hS => by go_simp⟩) hS3 ?_
    refine wpAnyH_take (i := 9) (v := .slice A6 parts.length c6) rfl (by kernel_rfl) (by kernel_rfl) (by kernel_rfl) (fun _ _ _ h => h) (Or.inl ⟨by kernel_rfl, fun W1 hS => by go_simp⟩) hS3 ?_
    refine wpAnyH_take (i := 10) (v := .int .i64 0) rfl (by kernel_rfl) (by kernel_rfl) (by kernel_rfl) (fun _ _ _ h => h) (Or.inl ⟨by kernel_rfl, fun W1 hS => by go_simp⟩) hS3 ?_
    refine wpAnyH_take (i := 11) (v := .pointer (some ⟨g, 0, none⟩)) rfl (by kernel_rfl) (by kernel_rfl) (by kernel_rfl) (fun _ _ _ h => h) (Or.inl ⟨by kernel_rfl, fun W1 hS => by go_simp⟩) hS3 ?_
    refine wpAnyH_take (i := 12) (v := .pointer (some ⟨g, 7, none⟩)) rfl (by kernel_rfl) (by kernel_rfl) (by kernel_rfl) (fun _ _ _ h => h) (Or.inl ⟨by kernel_rfl, fun W1 hS => by go_simp⟩) hS3 ?_
    refine wpAnyH_all (rs := [13]) (by kernel_rfl) (by simp) ?_
    intro ix hix
    obtain rfl : ix = 13 := by simpa using hix
    clear hix
    obtain ⟨⟨P7, hq⟩, hn, hb⟩ := hS3
    obtain ⟨y0, y1, y2, y3, y4, y5, y6, y7⟩ := sched_Build.pl_cell hq
    have f7 := blk_frozen hq 7
    have hq7 := sched_Build.set_blk hq 7 (.slice A6 parts.length c6)
    have hn7 : (W6.setCell ⟨g, 7, none⟩ (.slice A6 parts.length c6)).heap[N]? = _ := (Below.heap_setCell W6 ⟨g, 7, none⟩ _ N (Nat.ne_of_lt NG.out)).trans hn
    have hb7 : Below N w (W6.setCell ⟨g, 7, none⟩ (.slice A6 parts.length c6)) := Below.setCell hb (p := ⟨g, 7, none⟩) (Nat.le_of_lt NG.out) _
    refine sched_Build.skip (w' := W6.setCell ⟨g, 7, none⟩ (.slice A6 parts.length c6)) rfl rfl rfl (by go_simp) ?_
    refine ⟨⟨⟨_, hq7⟩, hn7, hb7⟩, ?_⟩
    clear y0 y1 y2 y3 y4 y5 y6 y7 f7 hn hb
    refine sched_Build.norm (a' := { tmps := #[.agg #[.int .i64 a0_0, .int .i64 a0_1, .slice A0_2 l0_2.length c0_2, .int .i64 a0_3], .pointer (some ⟨N, 0, none⟩), .slice none 0 0, .int .i64 0, .int .i64 0, .pointer (some ⟨g, 0, none⟩), undef, undef, undef, undef, undef, .agg #[.int .i64 a0_0, .int .i64 a0_1, .slice A0_2 l0_2.length c0_2, .int .i64 a0_3], .int .i64 0, .int .i64 0, .bool false, undef, .agg #[.int .i64 a0_0, .int .i64 a0_1, .slice A0_2 l0_2.length c0_2, .int .i64 a0_3], .pointer (some ⟨N, 1, none⟩), .int .i64 a0_1, .agg #[.int .i64 a0_0, .int .i64 a0_1, .slice A0_2 l0_2.length c0_2, .int .i64 a0_3, .int .i64 0, .int .i64 a0_1, .int .i64 0, .slice none 0 0], .pointer (some ⟨g, 0, none⟩), .tuple #[.slice A6 parts.length c6, .int .i64 0], .pointer (some ⟨g, 0, none⟩), .pointer (some ⟨N, 1, none⟩), .int .i64 a0_1, .slice (some ⟨W3.heap.size, 0, none⟩) 1 1, .pointer (some ⟨N, 3, none⟩), .int .i64 a0_3, .slice A5 (List.replicate a0_3.toNat (1 : Int)).length c5, .tuple #[.slice A6 parts.length c6, .int .i64 0], .slice A6 parts.length c6, .int .i64 0, .pointer (some ⟨g, 0, none⟩), .pointer (some ⟨g, 7, none⟩), undef, undef, undef, undef, undef, undef, undef, undef, undef, undef, undef, undef, undef, undef, undef, undef, undef, undef, undef, undef, undef, undef, undef, undef, undef, undef, undef, undef, undef, undef, undef, undef, undef, undef, undef, undef, undef, undef, undef, undef, undef, undef, undef, undef, undef, undef, undef, undef, undef, undef, undef, undef, undef, undef, undef, undef, undef, undef, undef, undef, undef, undef, undef, undef, undef, undef, undef, undef, undef, undef, undef, undef, undef, undef, undef, undef, undef, undef, undef, undef, undef, undef, undef, undef, undef, undef, undef, undef, undef, undef, undef], defers := [] }) (by kernel_rfl) ?_
    refine wpAnyH_done (by kernel_rfl) ?_ _
    go_upto_region 7 with (fail)
    have gt6 : g < W6.heap.size := Nat.lt_of_lt_of_le gt5 hb6.size
    have o7 : (W6.setCell ⟨g, 7, none⟩ (.slice A6 parts.length c6)).ownsRow W5.heap.size 2 1 (.slice A6 parts.length c6) parts.length (encs (Value.int .i64) parts) := o6.kept (row := some g) (sched_Build.grown W6 g 7 (.slice A6 parts.length c6)) (by
      rcases o6.2 with ⟨hv, _⟩ | ⟨gq, cap, cur, hv, hge, _⟩
      · rw [hv]; exact .inl rfl
      · rw [hv]
        refine .inr (fun e => ?_)
        have e2 : gq = g := by simpa [Value.ownBlock] using e
        omega)
    have szs : (W6.setCell ⟨g, 7, none⟩ (.slice A6 parts.length c6)).heap.size = W6.heap.size := by simp [World.setCell]
    clear o6 hR6 hC6 hle6 hq hb6
    generalize W6.setCell ⟨g, 7, none⟩ (.slice A6 parts.length c6) = W7 at *
    have hq7 : W7.heap[g]? = some (.cells (sched_Build.pl a0_0 a0_1 A0_2 l0_2.length c0_2 a0_3 0 a0_1 0 (.slice A6 parts.length c6)) 51 (0, 0)) := hq7
    rw [← szs]
    have b8 := blk_new W7 (.cells #[.nilFunc, .func (.func 23) #[.pointer (some ⟨g, 0, none⟩)] #[], .func (.func 24) #[.pointer (some ⟨g, 0, none⟩)] #[], .func (.func 25) #[.pointer (some ⟨g, 0, none⟩)] #[], .func (.func 26) #[.pointer (some ⟨g, 0, none⟩)] #[]] 56 (0, 0))
    have y8 := below_alloc (Below.refl W7.heap.size W7) (.cells #[.nilFunc, .func (.func 23) #[.pointer (some ⟨g, 0, none⟩)] #[], .func (.func 24) #[.pointer (some ⟨g, 0, none⟩)] #[], .func (.func 25) #[.pointer (some ⟨g, 0, none⟩)] #[], .func (.func 26) #[.pointer (some ⟨g, 0, none⟩)] #[]] 56 (0, 0))
    have o8 := pw_own_below o7 y8
    have gt7 : g < W7.heap.size := by rw [szs]; exact gt6
    generalize W7.alloc (.cells #[.nilFunc, .func (.func 23) #[.pointer (some ⟨g, 0, none⟩)] #[], .func (.func 24) #[.pointer (some ⟨g, 0, none⟩)] #[], .func (.func 25) #[.pointer (some ⟨g, 0, none⟩)] #[], .func (.func 26) #[.pointer (some ⟨g, 0, none⟩)] #[]] 56 (0, 0)) = W8 at *
    have q8 := (y8.block g gt7).trans hq7
    have n8 := (y8.block N (Nat.lt_trans NG.out gt7)).trans hn7
    have h8 := hb7.trans (y8.mono (Nat.le_of_lt (Nat.lt_trans NG.out gt7)))
    obtain ⟨gp, hgp⟩ : ∃ gp, gp = W7.heap.size := ⟨_, rfl⟩
    rw [← hgp] at b8 ⊢
    obtain ⟨M, hM⟩ : ∃ M, M = W5.heap.size := ⟨_, rfl⟩
    rw [← hM] at o8
    have GP := Aside0.mk (show g < gp by rw [hgp]; exact gt7)
    have GM := Aside0.mk (show g < M by rw [hM]; exact gt5)
    have NM := Aside0.mk (show N ≤ M by rw [hM]; exact Nat.le_of_lt lt5)
    clear y8 hq7 hn7 hb7 o7 szs gt5 lt5 gt6 gt7 hgp hM
    have H' := Aside0.mk HH.out
    go_upto_region 8 with (fail)
    go_loopg [7] (a0_3.toNat + 1) (fun kq v7 wr => ∃ (at_ left level : Int) (out : List S43), Aside0 (sched_Build.rows k a0_0 l0_2 parts a0_3 kq at_ left level out = some (r1, r2)) ∧ Aside0 (0 ≤ at_ ∧ at_ ≤ a0_3 ∧ (out.length : Int) = at_) ∧ Aside0 (wr.heap[g]? = some (.cells (sched_Build.pl a0_0 a0_1 A0_2 l0_2.length c0_2 a0_3 at_ left level (.slice A6 parts.length c6)) 51 (0, 0))) ∧ Aside0 (wr.heap[N]? = some (.cells #[.int .i64 a0_0, .int .i64 a0_1, .slice A0_2 l0_2.length c0_2, .int .i64 a0_3] 27 (0, 0))) ∧ Aside0 (wr.heap[gp]? = some (.cells #[.nilFunc, .func (.func 23) #[.pointer (some ⟨g, 0, none⟩)] #[], .func (.func 24) #[.pointer (some ⟨g, 0, none⟩)] #[], .func (.func 25) #[.pointer (some ⟨g, 0, none⟩)] #[], .func (.func 26) #[.pointer (some ⟨g, 0, none⟩)] #[]] 56 (0, 0))) ∧ Aside0 (wr.ownsRow M 2 1 (.slice A6 parts.length c6) parts.length (encs (Value.int .i64) parts)) ∧ Aside0 (Kd.R k43 43 wr N (fun _ => True) v7 out) ∧ Aside0 (Below N w wr))
    case atStart => exact ⟨0, a0_1, 0, [], H', ⟨⟨Int.le_refl _, by have := HOK.out.2.2.2.1; omega, rfl⟩⟩, ⟨q8⟩, ⟨n8⟩, ⟨b8⟩, ⟨o8⟩, ⟨Kd.R_nil _ _ _ _ _⟩, ⟨h8⟩⟩
    case round =>
      obtain ⟨at_, left, level, out, HA, HI, QG, QN, QP, QO, QR, QB⟩ := hrel
      clear H' HH q8 n8 b8 o8 h8
      obtain ⟨z0, z1, z2, z3, z4, z5, z6, z7⟩ := sched_Build.pl_cell QG.out
      have x0 := (blk_cell QN.out 0).trans rfl
      have x3 := (blk_cell QN.out 3).trans rfl
      cases gk with
      | zero => exact absurd HA.out (by simp [sched_Build.rows])
      | succ n =>
        have H := HA.out
        clear HA
        rw [sched_Build.rows] at H
        by_cases c1 : at_ < a0_3
        · rw [if_pos c1] at H
          have q1 : decide (at_ < a0_3) = true := decide_eq_true c1
          have HC1 := Aside0.mk c1
          have HN1 := Aside0.mk H
          clear c1 H
          go_upto_region 8 with (fail)
          go_quiet (fail)
          go_upto_region 10 with (fail)
          have H1 := HN1.out
          obtain ⟨⟨iv, ie⟩, hiv, H2⟩ := Option.bind_eq_some_iff.1 H1
          dsimp only at H2
          have HIV := Aside0.mk hiv
          have HN2 := Aside0.mk H2
          clear H1 hiv H2 HN1
          have gw : g < wr.heap.size := (Array.getElem?_eq_some_iff.1 QG.out).1
          have rdw : sched_Build.RD wr g A0_2 l0_2 := fun j h0 h1 => by
            obtain ⟨ad, e, hx⟩ := Kd.at_int HR.out j h0 h1
            have hlt := World.block_lt_of_cell? w _ hx
            rw [add_block, ← HN.out] at hlt
            exact ⟨ad, e, Nat.lt_trans hlt NG.out, (QB.out.cell (p := ad.add j.toNat) (by rw [add_block]; exact hlt)).trans hx⟩
          have GW := Aside0.mk gw
          have RW := Aside0.mk rdw
          clear gw rdw
          have hS0 : Below wr.heap.size wr { (wr.drewN nq) with drawn := (wr.drewN nq).drawn + 1 } := ⟨rfl, rfl, rfl, Nat.le_refl _, fun _ _ => rfl⟩
          refine wp_region_held (S := fun W1 => Below wr.heap.size wr W1) (by kernel_rfl) ?_
          refine wpAnyH_take (i := 0) (v := .pointer (some ⟨g, 0, none⟩)) rfl (by kernel_rfl) (by kernel_rfl) (by kernel_rfl) (fun _ _ _ h => h) (Or.inl ⟨by kernel_rfl, fun W1 hS => by go_simp⟩) hS0 ?_
          refine wpAnyH_take (i := 1) (v := .pointer (some ⟨g, 0, none⟩)) rfl (by kernel_rfl) (by kernel_rfl) (by kernel_rfl) (fun _ _ _ h => h) (Or.inl ⟨by kernel_rfl, fun W1 hS => by go_simp⟩) hS0 ?_
          refine wpAnyH_take (i := 2) (v := .pointer (some ⟨g, 5, none⟩)) rfl (by kernel_rfl) (by kernel_rfl) (by kernel_rfl) (fun _ _ _ h => h) (Or.inl ⟨by kernel_rfl, fun W1 hS => by go_simp⟩) hS0 ?_
          refine wpAnyH_take (i := 3) (v := .int .i64 left) rfl (by kernel_rfl) (by kernel_rfl) (by kernel_rfl) (fun _ _ _ h => h) (Or.inl ⟨by kernel_rfl, fun W1 hS => by have hq := (hS.block g GW.out).trans QG.out; obtain ⟨y0, y1, y2, y3, y4, y5, y6, y7⟩ := sched_Build.pl_cell hq; go_simp⟩) hS0 ?_
          refine wpAnyH_take (i := 4) (v := .pointer (some ⟨g, 0, none⟩)) rfl (by kernel_rfl) (by kernel_rfl) (by kernel_rfl) (fun _ _ _ h => h) (Or.inl ⟨by kernel_rfl, fun W1 hS => by go_simp⟩) hS0 ?_
          refine wpAnyH_take (i := 5) (v := .pointer (some ⟨g, 0, none⟩)) rfl (by kernel_rfl) (by kernel_rfl) (by kernel_rfl) (fun _ _ _ h => h) (Or.inl ⟨by kernel_rfl, fun W1 hS => by go_simp⟩) hS0 ?_
          refine wpAnyH_take (i := 6) (v := .pointer (some ⟨g, 0, none⟩)) rfl (by kernel_rfl) (by kernel_rfl) (by kernel_rfl) (fun _ _ _ h => h) (Or.inl ⟨by kernel_rfl, fun W1 hS => by go_simp⟩) hS0 ?_
          refine wpAnyH_take (i := 7) (v := .pointer (some ⟨g, 4, none⟩)) rfl (by kernel_rfl) (by kernel_rfl) (by kernel_rfl) (fun _ _ _ h => h) (Or.inl ⟨by kernel_rfl, fun W1 hS => by go_simp⟩) hS0 ?_
          refine wpAnyH_take (i := 8) (v := .int .i64 at_) rfl (by kernel_rfl) (by kernel_rfl) (by kernel_rfl) (fun _ _ _ h => h) (Or.inl ⟨by kernel_rfl, fun W1 hS => by have hq := (hS.block g GW.out).trans QG.out; obtain ⟨y0, y1, y2, y3, y4, y5, y6, y7⟩ := sched_Build.pl_cell hq; go_simp⟩) hS0 ?_
          refine wpAnyH_all (rs := [9]) (by kernel_rfl) (by simp) ?_
          intro ix hix
          obtain rfl : ix = 9 := by simpa using hix
          clear hix
          refine sched_Build.callR #[] rfl (by kernel_rfl) Try.func27 (by kernel_rfl) rfl #[.pointer (some ⟨g, 0, none⟩), .int .i64 at_] rfl (by kernel_rfl) (by kernel_rfl) ?_
          refine (sched_Build.rate _ g a0_0 a0_1 A0_2 c0_2 l0_2 a0_3 at_ left level (.slice A6 parts.length c6) at_ ((hS0.block g GW.out).trans QG.out) (RW.out.below (hS0.mono (Nat.le_of_lt GW.out))) HOK.out.2.2.2.2.2.1 HOK.out.2.2.2.2.2.2 HI.out.1).mono ?_
          rintro e Wa ⟨rfl, hba⟩
          have hS1 : Below wr.heap.size wr Wa := hS0.trans (hba.mono hS0.size)
          refine ⟨_, rfl, hS1, ?_⟩
          clear hS0 hba
          have hS0 := hS1
          refine wpAnyH_all (rs := [10]) (by kernel_rfl) (by simp) ?_
          intro ix hix
          obtain rfl : ix = 10 := by simpa using hix
          clear hix
          refine sched_Build.callR #[] rfl (by kernel_rfl) Try.func19 (by kernel_rfl) rfl #[.int .i64 left, .int .i64 (sched_Build.rt l0_2 at_)] rfl (by kernel_rfl) (by kernel_rfl) ?_
          refine (rate_Interest.calls k left (sched_Build.rt l0_2 at_) iv ie _ HIV.out).mono ?_
          rintro e Wb ⟨rfl, hbb⟩
          have hS2 : Below wr.heap.size wr Wb := hS0.trans (hbb.mono hS0.size)
          refine ⟨_, rfl, hS2, ?_⟩
          clear hS0 hS1 hbb
          have hS0 := hS2
          clear hS2
          refine wpAnyH_take (i := 11) (v := .tuple #[.int .i64 iv, .int .i64 ie]) rfl (by kernel_rfl) (by kernel_rfl) (by kernel_rfl) (fun _ _ _ h => h) (Or.inl ⟨by kernel_rfl, fun W1 hS => by go_simp⟩) hS0 ?_
          refine wpAnyH_take (i := 12) (v := .int .i64 iv) rfl (by kernel_rfl) (by kernel_rfl) (by kernel_rfl) (fun _ _ _ h => h) (Or.inl ⟨by kernel_rfl, fun W1 hS => by go_simp⟩) hS0 ?_
          refine wpAnyH_take (i := 13) (v := .int .i64 ie) rfl (by kernel_rfl) (by kernel_rfl) (by kernel_rfl) (fun _ _ _ h => h) (Or.inl ⟨by kernel_rfl, fun W1 hS => by go_simp⟩) hS0 ?_
          refine wpAnyH_take (i := 14) (v := .int .i64 iv) rfl (by kernel_rfl) (by kernel_rfl) (by kernel_rfl) (fun _ _ _ h => h) (Or.inl ⟨by kernel_rfl, fun W1 hS => by go_simp⟩) hS0 ?_
          refine wpAnyH_take (i := 15) (v := .int .i64 ie) rfl (by kernel_rfl) (by kernel_rfl) (by kernel_rfl) (fun _ _ _ h => h) (Or.inl ⟨by kernel_rfl, fun W1 hS => by go_simp⟩) hS0 ?_
          refine sched_Build.norm (a' := { tmps := #[.agg #[.int .i64 a0_0, .int .i64 a0_1, .slice A0_2 l0_2.length c0_2, .int .i64 a0_3], .pointer (some ⟨N, 0, none⟩), u2, u3, .int .i64 0, .pointer (some ⟨g, 0, none⟩), .pointer (some ⟨gp, 0, none⟩), u7, .int .i64 iv, .int .i64 ie, u10, .agg #[.int .i64 a0_0, .int .i64 a0_1, .slice A0_2 l0_2.length c0_2, .int .i64 a0_3], .int .i64 0, .int .i64 0, .bool false, undef, .agg #[.int .i64 a0_0, .int .i64 a0_1, .slice A0_2 l0_2.length c0_2, .int .i64 a0_3], .pointer (some ⟨N, 1, none⟩), .int .i64 a0_1, .agg #[.int .i64 a0_0, .int .i64 a0_1, .slice A0_2 l0_2.length c0_2, .int .i64 a0_3, .int .i64 0, .int .i64 a0_1, .int .i64 0, .slice none 0 0], .pointer (some ⟨g, 0, none⟩), .tuple #[.slice A6 parts.length c6, .int .i64 0], .pointer (some ⟨g, 0, none⟩), .pointer (some ⟨N, 1, none⟩), .int .i64 a0_1, .slice (some ⟨W3.heap.size, 0, none⟩) 1 1, .pointer (some ⟨N, 3, none⟩), .int .i64 a0_3, .slice A5 (List.replicate a0_3.toNat (1 : Int)).length c5, .tuple #[.slice A6 parts.length c6, .int .i64 0], .slice A6 parts.length c6, .int .i64 0, .pointer (some ⟨g, 0, none⟩), .pointer (some ⟨g, 7, none⟩), .pointer (some ⟨g, 0, none⟩), .func (.func 23) #[.pointer (some ⟨g, 0, none⟩)] #[], .pointer (some ⟨g, 0, none⟩), .func (.func 24) #[.pointer (some ⟨g, 0, none⟩)] #[], .pointer (some ⟨g, 0, none⟩), .func (.func 25) #[.pointer (some ⟨g, 0, none⟩)] #[], .pointer (some ⟨g, 0, none⟩), .func (.func 26) #[.pointer (some ⟨g, 0, none⟩)] #[], .agg #[.nilFunc, .func (.func 23) #[.pointer (some ⟨g, 0, none⟩)] #[], .func (.func 24) #[.pointer (some ⟨g, 0, none⟩)] #[], .func (.func 25) #[.pointer (some ⟨g, 0, none⟩)] #[], .func (.func 26) #[.pointer (some ⟨g, 0, none⟩)] #[]], .pointer (some ⟨g, 0, none⟩), .pointer (some ⟨g, 0, none⟩), .pointer (some ⟨g, 4, none⟩), .int .i64 at_, .pointer (some ⟨N, 3, none⟩), .int .i64 a0_3, .bool true, u50, u51, u52, u53, u54, u55, u56, .tuple #[.int .i64 iv, .int .i64 ie], .pointer (some ⟨g, 0, none⟩), .pointer (some ⟨g, 0, none⟩), .pointer (some ⟨g, 5, none⟩), .int .i64 left, .pointer (some ⟨g, 0, none⟩), .pointer (some ⟨g, 0, none⟩), .pointer (some ⟨g, 0, none⟩), .pointer (some ⟨g, 4, none⟩), .int .i64 at_, .int .i64 (sched_Build.rt l0_2 at_), .tuple #[.int .i64 iv, .int .i64 ie], .int .i64 iv, .int .i64 ie, u71, u72, u73, u74, u75, u76, u77, u78, u79, u80, u81, u82, u83, u84, u85, u86, u87, u88, u89, u90, u91, u92, u93, u94, u95, u96, u97, u98, u99, u100, u101, u102, u103, u104, u105, u106, u107, u108, u109, u110, u111, u112, u113, u114, u115, u116, u117, u118, u119, u120, u121, u122, u123, undef], defers := [] }) (by kernel_rfl) ?_
          refine wpAnyH_done (by kernel_rfl) ?_ _
          have HB0 := Aside0.mk hS0
          clear hS0 z0 z1 z2 z3 z4 z5 z6 z7 x0 x3
          by_cases ce : ie = 0
          · have CE := Aside0.mk ce
            have q2 : (ie != 0) = false := by simp [ce]
            clear ce
            have hgB := (HB0.out.block g GW.out).trans QG.out
            have hnB := (HB0.out.block N (Nat.lt_trans NG.out GW.out)).trans QN.out
            obtain ⟨z0, z1, z2, z3, z4, z5, z6, z7⟩ := sched_Build.pl_cell hgB
            have x0 := (blk_cell hnB 0).trans rfl
            have x3 := (blk_cell hnB 3).trans rfl
            have q3 : wrap64 (a0_3 - 1) = a0_3 - 1 := by have := HOK.out.2.2.2; unfold wrap64; omega
            have HGB := Aside0.mk hgB
            have HNB := Aside0.mk hnB
            clear hgB hnB
            go_upto_region 14 with (fail)
            rename_i K16 hK16 K15 hK15
            have TAIL : ∀ (paid lv : Int) (s43 s44 s45 s46 s47 s48 s49 s50 s51 s52 s53 s54 s55 s56 s57 s58 s59 s60 s61 s62 s63 s64 s65 s66 s67 s68 s69 s70 s71 s72 s73 s74 s75 s76 s77 s78 s79 s80 s81 s82 s83 s84 s85 s86 s87 s88 s89 s90 s91 s92 s93 : Value) (W : World), (if mx (wrap64 (left - wrap64 (paid - iv))) paid > 10000000000000 then some ([], 3) else sched_Build.rows k a0_0 l0_2 parts a0_3 n (at_ + 1) (wrap64 (left - wrap64 (paid - iv))) lv (out ++ [⟨iv, paid, wrap64 (paid - iv), wrap64 (left - wrap64 (paid - iv))⟩])) = some (r1, r2) → W.heap[g]? = some (.cells (sched_Build.pl a0_0 a0_1 A0_2 l0_2.length c0_2 a0_3 at_ left lv (.slice A6 parts.length c6)) 51 (0, 0)) → KeepBut wr W g none → Below g wr W → K16 { tmps := #[.agg #[.int .i64 a0_0, .int .i64 a0_1, .slice A0_2 l0_2.length c0_2, .int .i64 a0_3], .pointer (some ⟨N, 0, none⟩), u2, u3, .int .i64 0, .pointer (some ⟨g, 0, none⟩), .pointer (some ⟨gp, 0, none⟩), u7, .int .i64 iv, .int .i64 ie, .int .i64 paid, .agg #[.int .i64 a0_0, .int .i64 a0_1, .slice A0_2 l0_2.length c0_2, .int .i64 a0_3], .int .i64 0, .int .i64 0, .bool false, undef, .agg #[.int .i64 a0_0, .int .i64 a0_1, .slice A0_2 l0_2.length c0_2, .int .i64 a0_3], .pointer (some ⟨N, 1, none⟩), .int .i64 a0_1, .agg #[.int .i64 a0_0, .int .i64 a0_1, .slice A0_2 l0_2.length c0_2, .int .i64 a0_3, .int .i64 0, .int .i64 a0_1, .int .i64 0, .slice none 0 0], .pointer (some ⟨g, 0, none⟩), .tuple #[.slice A6 parts.length c6, .int .i64 0], .pointer (some ⟨g, 0, none⟩), .pointer (some ⟨N, 1, none⟩), .int .i64 a0_1, .slice (some ⟨W3.heap.size, 0, none⟩) 1 1, .pointer (some ⟨N, 3, none⟩), .int .i64 a0_3, .slice A5 (List.replicate a0_3.toNat (1 : Int)).length c5, .tuple #[.slice A6 parts.length c6, .int .i64 0], .slice A6 parts.length c6, .int .i64 0, .pointer (some ⟨g, 0, none⟩), .pointer (some ⟨g, 7, none⟩), .pointer (some ⟨g, 0, none⟩), .func (.func 23) #[.pointer (some ⟨g, 0, none⟩)] #[], .pointer (some ⟨g, 0, none⟩), .func (.func 24) #[.pointer (some ⟨g, 0, none⟩)] #[], .pointer (some ⟨g, 0, none⟩), .func (.func 25) #[.pointer (some ⟨g, 0, none⟩)] #[], .pointer (some ⟨g, 0, none⟩), .func (.func 26) #[.pointer (some ⟨g, 0, none⟩)] #[], .agg #[.nilFunc, .func (.func 23) #[.pointer (some ⟨g, 0, none⟩)] #[], .func (.func 24) #[.pointer (some ⟨g, 0, none⟩)] #[], .func (.func 25) #[.pointer (some ⟨g, 0, none⟩)] #[], .func (.func 26) #[.pointer (some ⟨g, 0, none⟩)] #[]], s43, s44, s45, s46, s47, s48, s49, s50, s51, s52, s53, s54, s55, s56, s57, s58, s59, s60, s61, s62, s63, s64, s65, s66, s67, s68, s69, s70, s71, s72, s73, s74, s75, s76, s77, s78, s79, s80, s81, s82, s83, s84, s85, s86, s87, s88, s89, s90, s91, s92, s93, u94, u95, u96, u97, u98, u99, u100, u101, u102, u103, u104, u105, u106, u107, u108, u109, u110, u111, u112, u113, u114, u115, u116, u117, u118, u119, u120, u121, u122, u123, undef], defers := [] } W := by
              intro paid lv s43 s44 s45 s46 s47 s48 s49 s50 s51 s52 s53 s54 s55 s56 s57 s58 s59 s60 s61 s62 s63 s64 s65 s66 s67 s68 s69 s70 s71 s72 s73 s74 s75 s76 s77 s78 s79 s80 s81 s82 s83 s84 s85 s86 s87 s88 s89 s90 s91 s92 s93 W hT hG hK hB
              have hN := hK.blk QN.out (Nat.ne_of_lt NG.out) (by simp)
              have hP := hK.blk QP.out (Nat.ne_of_gt GP.out) (by simp)
              clear z0 z1 z2 z3 z4 z5 z6 z7 x0 x3 q2 q3 HGB HNB
              obtain ⟨z0, z1, z2, z3, z4, z5, z6, z7⟩ := sched_Build.pl_cell hG
              have f5 := blk_frozen hG 5
              obtain ⟨p1, hp1⟩ : ∃ x, wrap64 (paid - iv) = x := ⟨_, rfl⟩
              obtain ⟨l1, hl1⟩ : ∃ x, wrap64 (left - p1) = x := ⟨_, rfl⟩
              obtain ⟨m, hm⟩ : ∃ x, mx l1 paid = x := ⟨_, rfl⟩
              rw [hp1, hl1, hm] at hT
              have hm_ : (if l1 < paid then paid else l1) = m := hm
              have HT := Aside0.mk hT
              have HG := Aside0.mk hG
              have HK := Aside0.mk hK
              have HB := Aside0.mk hB
              have HN' := Aside0.mk hN
              have HP' := Aside0.mk hP
              clear hm hT hG hK hB hN hP
              refine hK16 _ _ ?_
              go_upto_region 17 with (fail)
              have hG1 : (W.setCell ⟨g, 5, none⟩ (.int .i64 l1)).heap[g]? = some (.cells (sched_Build.pl a0_0 a0_1 A0_2 l0_2.length c0_2 a0_3 at_ l1 lv (.slice A6 parts.length c6)) 51 (0, 0)) := sched_Build.set_blk HG.out 5 _
              have hK1 := HK.out.set_ 5 (.int .i64 l1)
              have hB1 : Below g wr (W.setCell ⟨g, 5, none⟩ (.int .i64 l1)) := Below.setCell HB.out (p := ⟨g, 5, none⟩) (Nat.le_refl _) _
              have hBN : Below N w (W.setCell ⟨g, 5, none⟩ (.int .i64 l1)) := QB.out.trans (hB1.mono (Nat.le_of_lt NG.out))
              clear z0 z1 z2 z3 z4 z5 z6 z7 f5 HG HK HB HN' HP'
              generalize W.setCell ⟨g, 5, none⟩ (.int .i64 l1) = W2 at *
              obtain ⟨z0, z1, z2, z3, z4, z5, z6, z7⟩ := sched_Build.pl_cell hG1
              have HG1 := Aside0.mk hG1
              have HK1 := Aside0.mk hK1
              have HBN := Aside0.mk hBN
              have hR1 := Aside0.mk (Kd.R_step (Kd.R_types QR.out QG.out (by decide)) (fun k hk hlt => hK1.2 k hlt hk.2 (by simp)))
              have hN1 := Aside0.mk (hK1.blk QN.out (Nat.ne_of_lt NG.out) (by simp))
              have hP1 := Aside0.mk (hK1.blk QP.out (Nat.ne_of_gt GP.out) (by simp))
              have hO1 := Aside0.mk (hK1.own QO.out (fun e => by have := (QO.out.lt g e).1; have := GM.out; omega) (Classical.em _))
              clear hG1 hK1 hBN hB1
              by_cases cm : m > 10000000000000
              · have hT := HT.out
                rw [if_pos cm] at hT
                obtain ⟨rfl, rfl⟩ : [] = r1 ∧ 3 = r2 := by simpa using hT
                have q5 : decide (m > 10000000000000) = true := decide_eq_true cm
                have q6 : decide (10000000000000 < m) = true := decide_eq_true cm
                clear cm hT
                go_wp2
                go_ret2
                refine ⟨_, rfl, Kd.R_nil _ _ _ _ _, ?_⟩
                rw [← HN.out]
                exact HBN.out
              · have hT := HT.out
                rw [if_neg cm] at hT
                have HT2 := Aside0.mk hT
                have q5 : decide (m > 10000000000000) = false := decide_eq_false cm
                have q6 : decide (10000000000000 < m) = false := decide_eq_false cm
                clear cm hT
                go_upto_region 19 with (fail)
                go_upto_region 9 with (first | ((with_reducible refine gate_builtin (b := .append) (xs := #[.tmp 111, .tmp 122]) rfl ?_); at_builtin; (refine Kd.R_append k43 (w0 := w) N rfl (.tmp 111) (.tmp 122) 28 43 (.agg #[(.int .i64 0), (.int .i64 0), (.int .i64 0), (.int .i64 0)]) 32 rfl Try.underlying28 info43 rfl (by decide) (by omega) u7 out (⟨iv, paid, p1, l1⟩ : S43) [.int .i64 iv, .int .i64 paid, .int .i64 p1, .int .i64 l1] (fun _ => True) (fun _ => False) rfl (by first | (go_simp; done) | (go_simp; rfl)) (k43_mkM _ _ _ (⟨iv, paid, p1, l1⟩ : S43)) (fun _ hk => hk.elim) (fun _ _ => trivial) (Kd.R_mono hR1.out (fun _ _ => trivial)) HBN.out (by rw [HN.out]; exact HBN.out.size) (by have := HI.out; have := HOK.out.2.2.2.2.1; omega) ?_); intro v1 w1 ho hb hg hat))
                have hGa := blk_grown HG1.out hg (Kd.R_ne hR1.out HG1.out (by decide))
                have hNa := Aside0.mk (blk_grown hN1.out hg (Kd.R_ne hR1.out hN1.out (by decide)))
                have hPa := Aside0.mk (blk_grown hP1.out hg (Kd.R_ne hR1.out hP1.out (by decide)))
                have hOa := Aside0.mk (hO1.out.kept hg (by
                  by_cases c : (Value.slice A6 parts.length c6).ownBlock = none
                  · exact .inl c
                  · refine .inr (fun e => ?_)
                    cases hq : (Value.slice A6 parts.length c6).ownBlock with
                    | none => exact c hq
                    | some b =>
                      obtain ⟨cs, hcs⟩ := own_typed hO1.out b hq
                      exact Kd.R_ne hR1.out hcs (by decide) (by rw [← e, hq])))
                obtain ⟨y0, y1, y2, y3, y4, y5, y6, y7⟩ := sched_Build.pl_cell hGa
                clear z0 z1 z2 z3 z4 z5 z6 z7
                have f4 := blk_frozen hGa 4
                have q7 : wrap64 (at_ + 1) = at_ + 1 := by have := HI.out; have := HOK.out.2.2.2.2.1; unfold wrap64; omega
                have HGa := Aside0.mk (sched_Build.set_blk hGa 4 (.int .i64 (at_ + 1)))
                have HRa := Aside0.mk (Kd.R_far (p := ⟨g, 4, none⟩) (Kd.R_types ho hGa (by decide)) (fun _ hk => hk.2) (.int .i64 (at_ + 1)))
                have HGR := Aside0.mk (sched_Build.grown w1 g 4 (.int .i64 (at_ + 1)))
                have HBa := Aside0.mk (Below.setCell hb (p := ⟨g, 4, none⟩) (Nat.le_of_lt NG.out) (.int .i64 (at_ + 1)))
                have HNb := Aside0.mk ((Below.heap_setCell w1 ⟨g, 4, none⟩ (.int .i64 (at_ + 1)) N (Nat.ne_of_lt NG.out)).trans hNa.out)
                have HPb := Aside0.mk ((Below.heap_setCell w1 ⟨g, 4, none⟩ (.int .i64 (at_ + 1)) gp (Nat.ne_of_gt GP.out)).trans hPa.out)
                have HOb := Aside0.mk (hOa.out.kept HGR.out (by
                  by_cases c : (Value.slice A6 parts.length c6).ownBlock = none
                  · exact .inl c
                  · exact .inr (fun e => by have := (hOa.out.lt g e).1; have := GM.out; omega)))
                clear ho hb hg hat hGa hNa hPa hOa hO1 hP1 hN1 hR1 HBN HK1 HG1
                go_wp2
                rw [show a0_3.toNat = (List.replicate a0_3.toNat (1 : Int)).length from List.length_replicate.symm]
                go_roundg n
                case measure => exact Nat.lt_succ_self n
                case rel => exact ⟨at_ + 1, l1, lv, out ++ [⟨iv, paid, p1, l1⟩], HT2, ⟨by have := HI.out; have := HC1.out; rw [List.length_append]; simp only [List.length_singleton]; omega⟩, HGa, HNb, HPb, HOb, ⟨Kd.R_mono HRa.out (fun _ _ => trivial)⟩, HBa⟩
            have TL := Aside0.mk TAIL
            clear TAIL hK16
            have H3 := HN2.out
            rw [if_pos CE.out] at H3
            obtain ⟨⟨paid, lv⟩, hpay, H4⟩ := Option.bind_eq_some_iff.1 H3
            dsimp only at H4
            have HPAY := Aside0.mk hpay
            have H5 := Aside0.mk H4
            clear H3 hpay H4 z0 z1 z2 z3 z4 z5 z6 z7 x0 x3 HN2
            have q3' : IntKind.i64.wrap (a0_3 - 1) = a0_3 - 1 := by rw [i64_w]; exact q3
            obtain ⟨bl, hbl⟩ : ∃ bl : Bool, decide (at_ < a0_3 - 1) = bl := ⟨_, rfl⟩
            have hS0 : Below wr.heap.size wr { Wb with drawn := Wb.drawn + 1 } := HB0.out.drew
            refine wp_region_held (S := fun W1 => Below wr.heap.size wr W1) (by kernel_rfl) ?_
            refine wpAnyH_take (i := 0) (v := .pointer (some ⟨g, 0, none⟩)) rfl (by kernel_rfl) (by kernel_rfl) (by kernel_rfl) (fun _ _ _ h => h) (Or.inl ⟨by kernel_rfl, fun W1 hS => by go_simp⟩) hS0 ?_
            refine wpAnyH_take (i := 1) (v := .pointer (some ⟨g, 0, none⟩)) rfl (by kernel_rfl) (by kernel_rfl) (by kernel_rfl) (fun _ _ _ h => h) (Or.inl ⟨by kernel_rfl, fun W1 hS => by go_simp⟩) hS0 ?_
            refine wpAnyH_take (i := 2) (v := .pointer (some ⟨g, 4, none⟩)) rfl (by kernel_rfl) (by kernel_rfl) (by kernel_rfl) (fun _ _ _ h => h) (Or.inl ⟨by kernel_rfl, fun W1 hS => by go_simp⟩) hS0 ?_
            refine wpAnyH_take (i := 3) (v := .int .i64 at_) rfl (by kernel_rfl) (by kernel_rfl) (by kernel_rfl) (fun _ _ _ h => h) (Or.inl ⟨by kernel_rfl, fun W1 hS => by have hq := (hS.block g GW.out).trans QG.out; obtain ⟨y0, y1, y2, y3, y4, y5, y6, y7⟩ := sched_Build.pl_cell hq; go_simp⟩) hS0 ?_
            refine wpAnyH_take (i := 4) (v := .pointer (some ⟨N, 3, none⟩)) rfl (by kernel_rfl) (by kernel_rfl) (by kernel_rfl) (fun _ _ _ h => h) (Or.inl ⟨by kernel_rfl, fun W1 hS => by go_simp⟩) hS0 ?_
            refine wpAnyH_take (i := 5) (v := .int .i64 a0_3) rfl (by kernel_rfl) (by kernel_rfl) (by kernel_rfl) (fun _ _ _ h => h) (Or.inl ⟨by kernel_rfl, fun W1 hS => by have hq := (hS.block N (Nat.lt_trans NG.out GW.out)).trans QN.out; have y3 : W1.cell? ⟨N, 3, none⟩ = some (.int .i64 a0_3) := (blk_cell hq 3).trans rfl; go_simp⟩) hS0 ?_
            refine wpAnyH_take (i := 6) (v := .int .i64 (a0_3 - 1)) rfl (by kernel_rfl) (by kernel_rfl) (by kernel_rfl) (fun _ _ _ h => h) (Or.inl ⟨by kernel_rfl, fun W1 hS => by go_simp⟩) hS0 ?_
            refine wpAnyH_take (i := 7) (v := .bool bl) rfl (by kernel_rfl) (by kernel_rfl) (by kernel_rfl) (fun _ _ _ h => h) (Or.inl ⟨by kernel_rfl, fun W1 hS => by go_simp⟩) hS0 ?_
            refine sched_Build.norm (a' := { tmps := #[.agg #[.int .i64 a0_0, .int .i64 a0_1, .slice A0_2 l0_2.length c0_2, .int .i64 a0_3], .pointer (some ⟨N, 0, none⟩), u2, u3, .int .i64 0, .pointer (some ⟨g, 0, none⟩), .pointer (some ⟨gp, 0, none⟩), u7, .int .i64 iv, .int .i64 ie, .int .i64 (wrap64 (left + iv)), .agg #[.int .i64 a0_0, .int .i64 a0_1, .slice A0_2 l0_2.length c0_2, .int .i64 a0_3], .int .i64 0, .int .i64 0, .bool false, undef, .agg #[.int .i64 a0_0, .int .i64 a0_1, .slice A0_2 l0_2.length c0_2, .int .i64 a0_3], .pointer (some ⟨N, 1, none⟩), .int .i64 a0_1, .agg #[.int .i64 a0_0, .int .i64 a0_1, .slice A0_2 l0_2.length c0_2, .int .i64 a0_3, .int .i64 0, .int .i64 a0_1, .int .i64 0, .slice none 0 0], .pointer (some ⟨g, 0, none⟩), .tuple #[.slice A6 parts.length c6, .int .i64 0], .pointer (some ⟨g, 0, none⟩), .pointer (some ⟨N, 1, none⟩), .int .i64 a0_1, .slice (some ⟨W3.heap.size, 0, none⟩) 1 1, .pointer (some ⟨N, 3, none⟩), .int .i64 a0_3, .slice A5 (List.replicate a0_3.toNat (1 : Int)).length c5, .tuple #[.slice A6 parts.length c6, .int .i64 0], .slice A6 parts.length c6, .int .i64 0, .pointer (some ⟨g, 0, none⟩), .pointer (some ⟨g, 7, none⟩), .pointer (some ⟨g, 0, none⟩), .func (.func 23) #[.pointer (some ⟨g, 0, none⟩)] #[], .pointer (some ⟨g, 0, none⟩), .func (.func 24) #[.pointer (some ⟨g, 0, none⟩)] #[], .pointer (some ⟨g, 0, none⟩), .func (.func 25) #[.pointer (some ⟨g, 0, none⟩)] #[], .pointer (some ⟨g, 0, none⟩), .func (.func 26) #[.pointer (some ⟨g, 0, none⟩)] #[], .agg #[.nilFunc, .func (.func 23) #[.pointer (some ⟨g, 0, none⟩)] #[], .func (.func 24) #[.pointer (some ⟨g, 0, none⟩)] #[], .func (.func 25) #[.pointer (some ⟨g, 0, none⟩)] #[], .func (.func 26) #[.pointer (some ⟨g, 0, none⟩)] #[]], .pointer (some ⟨g, 0, none⟩), .pointer (some ⟨g, 0, none⟩), .pointer (some ⟨g, 4, none⟩), .int .i64 at_, .pointer (some ⟨N, 3, none⟩), .int .i64 a0_3, .bool true, u50, u51, u52, u53, u54, u55, u56, .tuple #[.int .i64 iv, .int .i64 ie], .pointer (some ⟨g, 0, none⟩), .pointer (some ⟨g, 0, none⟩), .pointer (some ⟨g, 5, none⟩), .int .i64 left, .pointer (some ⟨g, 0, none⟩), .pointer (some ⟨g, 0, none⟩), .pointer (some ⟨g, 0, none⟩), .pointer (some ⟨g, 4, none⟩), .int .i64 at_, .int .i64 (sched_Build.rt l0_2 at_), .tuple #[.int .i64 iv, .int .i64 ie], .int .i64 iv, .int .i64 ie, .int .i64 ie, .bool false, u73, .pointer (some ⟨g, 0, none⟩), .pointer (some ⟨g, 0, none⟩), .pointer (some ⟨g, 5, none⟩), .int .i64 left, .int .i64 iv, .int .i64 (wrap64 (left + iv)), .pointer (some ⟨g, 0, none⟩), .pointer (some ⟨g, 0, none⟩), .pointer (some ⟨g, 4, none⟩), .int .i64 at_, .pointer (some ⟨N, 3, none⟩), .int .i64 a0_3, .int .i64 (a0_3 - 1), .bool bl, u88, u89, u90, u91, u92, u93, u94, u95, u96, u97, u98, u99, u100, u101, u102, u103, u104, u105, u106, u107, u108, u109, u110, u111, u112, u113, u114, u115, u116, u117, u118, u119, u120, u121, u122, u123, undef], defers := [] }) (by kernel_rfl) ?_
            refine wpAnyH_done (by kernel_rfl) ?_ _
            have hG2 := (hS0.block g GW.out).trans QG.out
            have hN2 := (hS0.block N (Nat.lt_trans NG.out GW.out)).trans QN.out
            have gpw : gp < wr.heap.size := (Array.getElem?_eq_some_iff.1 QP.out).1
            have hP2 := (hS0.block gp gpw).trans QP.out
            have hK2 := KeepBut.of_below hS0 g none
            have hB2 := hS0.mono (Nat.le_of_lt GW.out)
            generalize { Wb with drawn := Wb.drawn + 1 } = Wc at *
            refine hK15 _ _ ?_
            clear hK15
            have HG2 := Aside0.mk hG2
            have HN2 := Aside0.mk hN2
            have HPQ := Aside0.mk hP2
            have HK2 := Aside0.mk hK2
            have HB2 := Aside0.mk hB2
            clear hG2 hN2 hP2 hK2 hB2 hS0
            by_cases c2 : at_ < a0_3 - 1
            · have C2 := Aside0.mk c2
              have hpay := HPAY.out
              rw [if_pos c2] at hpay
              rw [decide_eq_true c2] at hbl
              subst hbl
              have HP1 := Aside0.mk hpay
              clear c2 hpay HPAY
              go_upto_region 15 with (fail)
              have ha6 : at_ ≤ 600 := by have := HI.out; have := HOK.out.2.2.2.2.1; omega
              have RWc := Aside0.mk (RW.out.below HB2.out)
              have QOc := Aside0.mk (HK2.out.own QO.out (fun e => by have := (QO.out.lt g e).1; have := GM.out; omega) (Classical.em _))
              have x0 : Wc.cell? ⟨N, 0, none⟩ = some (.int .i64 a0_0) := (blk_cell HN2.out 0).trans rfl
              have v1 := (blk_cell HPQ.out 1).trans rfl
              have v2 := (blk_cell HPQ.out 2).trans rfl
              have v3 := (blk_cell HPQ.out 3).trans rfl
              have v4 := (blk_cell HPQ.out 4).trans rfl
              have hkd : a0_0 = 1 ∨ a0_0 = 2 ∨ a0_0 = 3 ∨ a0_0 = 4 := by have := HOK.out.2.1; have := HOK.out.2.2.1; omega
              rcases hkd with rfl | rfl | rfl | rfl
              · have hpay := HP1.out
                have hlv : (at_ = 0 ∨ sched_Build.rt l0_2 at_ ≠ sched_Build.rt l0_2 (at_ - 1) → ∃ er, sched_Level.f k left (sched_Build.rt l0_2 at_) (wrap64 (a0_3 - at_)) = some (lv, er)) ∧ (¬(at_ = 0 ∨ sched_Build.rt l0_2 at_ ≠ sched_Build.rt l0_2 (at_ - 1)) → lv = level) ∧ paid = mn lv (wrap64 (left + iv)) := by
                  unfold sched_Build.pay at hpay
                  rw [if_pos rfl] at hpay
                  split at hpay
                  · rename_i hc
                    obtain ⟨⟨x, er⟩, hx, hy⟩ := Option.bind_eq_some_iff.1 hpay
                    obtain ⟨rfl, rfl⟩ : mn x (wrap64 (left + iv)) = paid ∧ x = lv := by simpa using hy
                    exact ⟨fun _ => ⟨er, hx⟩, fun hn => absurd hc hn, rfl⟩
                  · rename_i hc
                    obtain ⟨rfl, rfl⟩ : mn level (wrap64 (left + iv)) = paid ∧ level = lv := by simpa using hpay
                    exact ⟨fun hn => absurd hn hc, fun _ => rfl, rfl⟩
                obtain ⟨l1, l2, rfl⟩ := hlv
                obtain ⟨er, l1⟩ : ∃ er, (at_ = 0 ∨ sched_Build.rt l0_2 at_ ≠ sched_Build.rt l0_2 (at_ - 1) → sched_Level.f k left (sched_Build.rt l0_2 at_) (wrap64 (a0_3 - at_)) = some (lv, er)) := by
                  by_cases hc : at_ = 0 ∨ sched_Build.rt l0_2 at_ ≠ sched_Build.rt l0_2 (at_ - 1)
                  · obtain ⟨er, h⟩ := l1 hc
                    exact ⟨er, fun _ => h⟩
                  · exact ⟨0, fun h => absurd h hc⟩
                have L1 := Aside0.mk l1
                have L2 := Aside0.mk l2
                clear l1 l2
                clear hpay
                go_wp2_with (first | ((with_reducible refine gate_dst (N := 93) rfl ?_); go_must (refine sched_Build.goesB (some 93) rfl rfl Try.func23 (by kernel_rfl) rfl #[.pointer (some ⟨g, 0, none⟩), .int .i64 iv] rfl rfl (by (try simp only [List.map_toArray, List.map_cons, List.map_nil]); first | done | rfl | (simp [Act.eval]; done) | (go_simp; done)) ?_; refine (sched_Build.annuity k Wc g 1 a0_1 A0_2 c0_2 l0_2 a0_3 at_ left level (.slice A6 parts.length c6) iv lv er HG2.out RWc.out HOK.out.2.2.2.2.2.1 HOK.out.2.2.2.2.2.2 HI.out.1 ha6 L1.out L2.out).mono ?_); rintro e W4 ⟨rfl, hga, hka, hba⟩; refine ⟨_, rfl, ?_⟩))
                rw [show a0_3.toNat = (List.replicate a0_3.toNat (1 : Int)).length from List.length_replicate.symm]
                exact TL.out _ _ _ _ _ _ _ _ _ _ _ _ _ _ _ _ _ _ _ _ _ _ _ _ _ _ _ _ _ _ _ _ _ _ _ _ _ _ _ _ _ _ _ _ _ _ _ _ _ _ _ _ _ _ H5.out hga (HK2.out.trans hka (.inl rfl)) (HB2.out.trans hba)
              · have hpay := HP1.out
                obtain ⟨rfl, rfl⟩ : wrap64 (iv + rd parts at_) = paid ∧ level = lv := by
                  unfold sched_Build.pay at hpay
                  rw [if_neg (by decide), if_pos rfl] at hpay
                  simpa using hpay
                have hat : at_ < (parts.length : Int) := by have := HP2.out; have := HC1.out; omega
                have hrd := Kd.at_int (Kd.R_reads' (Kd.R_of_own (xs := parts) (ok := fun _ => True) (h1 := fun _ => rfl) QOc.out (fun _ _ => trivial))).2.2 at_ HI.out.1 hat
                clear hpay
                go_wp2_with (first | ((with_reducible refine gate_dst (N := 93) rfl ?_); go_must (refine sched_Build.goesB (some 93) rfl rfl Try.func24 (by kernel_rfl) rfl #[.pointer (some ⟨g, 0, none⟩), .int .i64 iv] rfl rfl (by (try simp only [List.map_toArray, List.map_cons, List.map_nil]); first | done | rfl | (simp [Act.eval]; done) | (go_simp; done)) ?_; refine (sched_Build.linear Wc g 2 a0_1 A0_2 l0_2.length c0_2 a0_3 at_ left level A6 c6 parts iv HG2.out hrd HI.out.1 hat).mono ?_); rintro e W4 ⟨rfl, hb⟩; refine ⟨_, rfl, ?_⟩))
                rw [show a0_3.toNat = (List.replicate a0_3.toNat (1 : Int)).length from List.length_replicate.symm]
                exact TL.out _ _ _ _ _ _ _ _ _ _ _ _ _ _ _ _ _ _ _ _ _ _ _ _ _ _ _ _ _ _ _ _ _ _ _ _ _ _ _ _ _ _ _ _ _ _ _ _ _ _ _ _ _ _ H5.out ((hb.block g (Array.getElem?_eq_some_iff.1 HG2.out).1).trans HG2.out) (HK2.out.trans (KeepBut.of_below hb g none) (.inl rfl)) (HB2.out.trans (hb.mono (Nat.le_of_lt (Array.getElem?_eq_some_iff.1 HG2.out).1)))
              · have hpay := HP1.out
                obtain ⟨rfl, rfl⟩ : iv = paid ∧ level = lv := by
                  unfold sched_Build.pay at hpay
                  rw [if_neg (by decide), if_neg (by decide), if_pos rfl] at hpay
                  simpa using hpay
                clear hpay
                go_wp2_with (first | ((with_reducible refine gate_dst (N := 93) rfl ?_); go_must (refine sched_Build.goesB (some 93) rfl rfl Try.func25 (by kernel_rfl) rfl #[.pointer (some ⟨g, 0, none⟩), .int .i64 iv] rfl rfl (by (try simp only [List.map_toArray, List.map_cons, List.map_nil]); first | done | rfl | (simp [Act.eval]; done) | (go_simp; done)) ?_; refine (sched_Build.only Wc g iv).mono ?_); rintro e W4 ⟨rfl, hb⟩; refine ⟨_, rfl, ?_⟩))
                rw [show a0_3.toNat = (List.replicate a0_3.toNat (1 : Int)).length from List.length_replicate.symm]
                exact TL.out _ _ _ _ _ _ _ _ _ _ _ _ _ _ _ _ _ _ _ _ _ _ _ _ _ _ _ _ _ _ _ _ _ _ _ _ _ _ _ _ _ _ _ _ _ _ _ _ _ _ _ _ _ _ H5.out ((hb.block g (Array.getElem?_eq_some_iff.1 HG2.out).1).trans HG2.out) (HK2.out.trans (KeepBut.of_below hb g none) (.inl rfl)) (HB2.out.trans (hb.mono (Nat.le_of_lt (Array.getElem?_eq_some_iff.1 HG2.out).1)))
              · have hpay := HP1.out
                obtain ⟨rfl, rfl⟩ : 0 = paid ∧ level = lv := by
                  unfold sched_Build.pay at hpay
                  rw [if_neg (by decide), if_neg (by decide), if_neg (by decide), if_pos rfl] at hpay
                  simpa using hpay
                clear hpay
                go_wp2_with (first | ((with_reducible refine gate_dst (N := 93) rfl ?_); go_must (refine sched_Build.goesB (some 93) rfl rfl Try.func26 (by kernel_rfl) rfl #[.pointer (some ⟨g, 0, none⟩), .int .i64 iv] rfl rfl (by (try simp only [List.map_toArray, List.map_cons, List.map_nil]); first | done | rfl | (simp [Act.eval]; done) | (go_simp; done)) ?_; refine (sched_Build.nothing Wc g iv).mono ?_); rintro e W4 ⟨rfl, hb⟩; refine ⟨_, rfl, ?_⟩))
                rw [show a0_3.toNat = (List.replicate a0_3.toNat (1 : Int)).length from List.length_replicate.symm]
                exact TL.out _ _ _ _ _ _ _ _ _ _ _ _ _ _ _ _ _ _ _ _ _ _ _ _ _ _ _ _ _ _ _ _ _ _ _ _ _ _ _ _ _ _ _ _ _ _ _ _ _ _ _ _ _ _ H5.out ((hb.block g (Array.getElem?_eq_some_iff.1 HG2.out).1).trans HG2.out) (HK2.out.trans (KeepBut.of_below hb g none) (.inl rfl)) (HB2.out.trans (hb.mono (Nat.le_of_lt (Array.getElem?_eq_some_iff.1 HG2.out).1)))
            · have hpay := HPAY.out
              rw [if_neg c2] at hpay
              rw [decide_eq_false c2] at hbl
              subst hbl
              obtain ⟨e1, e2⟩ : wrap64 (left + iv) = paid ∧ level = lv := by simpa using hpay
              clear hpay HPAY c2
              go_wp2
              rw [show a0_3.toNat = (List.replicate a0_3.toNat (1 : Int)).length from List.length_replicate.symm]
              subst e2
              exact TL.out paid _ _ _ _ _ _ _ _ _ _ _ _ _ _ _ _ _ _ _ _ _ _ _ _ _ _ _ _ _ _ _ _ _ _ _ _ _ _ _ _ _ _ _ _ _ _ _ _ _ _ _ _ _ H5.out HG2.out HK2.out HB2.out
          · have q2 : (ie != 0) = true := by simp [ce]
            have H3 := HN2.out
            rw [if_neg ce] at H3
            obtain ⟨rfl, rfl⟩ : [] = r1 ∧ ie = r2 := by simpa using H3
            clear ce H3
            go_wp2
            go_ret2
            refine ⟨_, rfl, Kd.R_nil _ _ _ _ _, ?_⟩
            rw [← HN.out]
            exact QB.out.trans (HB0.out.mono (Nat.le_of_lt (Nat.lt_trans NG.out GW.out)))
        · rw [if_neg c1] at H
          obtain ⟨rfl, rfl⟩ : out = r1 ∧ 0 = r2 := by simpa using H
          have q1 : decide (at_ < a0_3) = false := decide_eq_false c1
          clear c1 H
          go_wp2
          repeat (go_quiet (fail); try go_wp2)
          go_ret2
          refine ⟨_, rfl, ?_, ?_⟩
          · rw [← HN.out]
            first | exact QR.out | exact Kd.R_drew QR.out | exact Kd.R_below QR.out ⟨rfl, rfl, rfl, Nat.le_refl _, fun _ _ => rfl⟩
          · rw [← HN.out]
            exact ⟨QB.out.os, QB.out.tape, QB.out.output, QB.out.size, QB.out.block⟩
  · rw [if_neg c0] at h
    obtain ⟨rfl, rfl⟩ : [] = r1 ∧ e0 = r2 := by simpa using h
    have q0 : (e0 != 0) = true := by simp [c0]
    clear c0 h
    go_wp2_with (first | (go_at_call 15; go_must ((with_reducible refine (sched_Check.calls k a0_0 a0_1 A0_2 c0_2 l0_2 a0_3 e0 _ C1.out HC.out HE.out).mono ?_)); rintro e W2 ⟨rfl, hb2⟩))
    go_ret2
    exact ⟨_, rfl, Kd.R_nil _ _ _ _ _, by rw [← HN.out]; exact Y1.out.trans (hb2.mono (by have := S1.out; omega))⟩


end Go.Proofs.Ytchpeobenlnemaa.S
end
