/- Texts of the statement SchedRatesSaid, laid together. Conditions: none beyond those that each theorem names. -/
import Derived.Test.YtchpeobenlnemaaSx0
section
namespace Go.Proofs.Ytchpeobenlnemaa.S
open Go.RowKit Go.Proofs.YtchpeobenlnemaaW.PrintWords Go.Proofs.YtchpeobenlnemaaW.PrintLast Go.Proofs.YtchpeobenlnemaaW.PrintMore
attribute [local go_sem] max2_int min2_int max_two min_two max_three min_three max_four min_four   -- for this text's walks alone
attribute [local go_sem] Go.Proofs.Ytchpeobenlnemaa.XWalk.cell2
set_option linter.unusedVariables false
set_option linter.unusedSimpArgs false

/-! ### lombardref02_size: function 68 -/
-- IMPORT BigMath
/-- A row of 260 bits, as a value. -/
def B.bit (N i : Nat) : Int := ((Go.Proofs.Ytchpeobenlnemaa.BigMath.bitN N i : Nat) : Int)
def B.cells (N : Nat) : Array Value := Array.ofFn (n := 260) fun i => .int .u8 (B.bit N i.val)
theorem B.size (N : Nat) : (B.cells N).size = 260 := by unfold B.cells; exact Array.size_ofFn
theorem B.get (N i : Nat) (h : i < 260) : (B.cells N)[i]? = some (.int .u8 (B.bit N i)) := by
  unfold B.cells
  rw [Array.getElem?_ofFn, dif_pos h]
theorem B.out (N i : Nat) (h : ¬i < 260) : (B.cells N)[i]? = none := Array.getElem?_eq_none (by rw [B.size]; omega)
/-- rows that are alike bit by bit -/
theorem B.ext (cs : Array Value) (N : Nat) (hs : cs.size = 260) (h : ∀ i, i < 260 → cs[i]? = some (.int .u8 (B.bit N i))) : cs = B.cells N := by
  apply Array.ext_getElem?
  intro i
  by_cases c : i < 260
  · rw [h i c, B.get N i c]
  · rw [B.out N i c]
    exact Array.getElem?_eq_none (by omega)
set_option maxRecDepth 100000 in
theorem B.zero : Try.zeroCells91 = B.cells 0 := by
  have e : Try.zeroCells91 = Array.replicate 260 (.int .u8 0) := by first | rfl | kernel_rfl
  rw [e]
  refine B.ext _ _ (by simp) fun i h => ?_
  rw [Array.getElem?_replicate, if_pos h]
  unfold B.bit
  rw [Go.Proofs.Ytchpeobenlnemaa.BigMath.bitN_zero]
  rfl
/-- one bit written -/
theorem B.put (S i : Nat) (v : Int) (h : i < 260) (hv : v = B.bit S i) : (B.cells (S % 2 ^ i)).setIfInBounds i (.int .u8 v) = B.cells (S % 2 ^ (i + 1)) := by
  refine B.ext _ _ (by rw [Array.size_setIfInBounds, B.size]) fun j hj => ?_
  rw [Array.getElem?_setIfInBounds]
  by_cases c : i = j
  · subst c
    rw [if_pos rfl, if_pos (by rw [B.size]; exact h), hv]
    unfold B.bit
    rw [Go.Proofs.Ytchpeobenlnemaa.BigMath.bitN_mod, if_pos (by omega)]
  · rw [if_neg c, B.get _ _ hj]
    unfold B.bit
    rw [Go.Proofs.Ytchpeobenlnemaa.BigMath.bitN_mod, Go.Proofs.Ytchpeobenlnemaa.BigMath.bitN_mod]
    by_cases d : j < i
    · rw [if_pos d, if_pos (by omega)]
    · rw [if_neg d, if_neg (by omega)]
theorem B.plain (N : Nat) : (B.cells N).all (·.oneCell') = true := by
  rw [Array.all_eq_true]
  intro i hi
  simp [B.cells, Value.oneCell']
theorem B.ix (g i : Nat) (h : i < 260) (W : World) : (Instr.indexAt 91 (.pointer (some ⟨g, 0, none⟩)) (.int .i64 (i : Int))).run Try.prog W = .ok (.pointer (some ⟨g, i, none⟩)) W := by
  rw [run_indexAt_array W 91 _ _ _ (by kernel_rfl)]
  have e : Try.prog.arrayLen 91 = 260 := by kernel_rfl
  rw [e, if_pos (by omega)]
  have z : Try.prog.elem 91 = 5 := by kernel_rfl
  rw [z]
  have s : ∀ W, (sizeOf 5).run Try.prog W = .ok 1 W := fun W => by kernel_rfl
  rw [s]
  simp [add_plain]
/-- a block that holds a row's bits -/
def B.Has (w : World) (g N : Nat) : Prop := w.heap[g]? = some (.cells (B.cells N) 91 (0, 0))
theorem B.Has.cell {w : World} {g N : Nat} (h : B.Has w g N) {i : Nat} (hi : i < 260) : w.cell? ⟨g, i, none⟩ = some (.int .u8 (B.bit N i)) := by
  rw [cell_of_row w g i _ _ _ h, B.get N i hi]
theorem B.Has.drew {w : World} {g N : Nat} (h : B.Has w g N) (n : Nat) : B.Has (w.drewN n) g N := h
theorem B.Has.set {w : World} {g N : Nat} (h : B.Has w g N) (p : Addr) (u : Value) (hp : g ≠ p.block) : B.Has (w.setCell p u) g N := blk_far h hp u
theorem B.Has.alloc {w : World} {g N : Nat} (h : B.Has w g N) (o : Obj) : B.Has (w.alloc o) g N := blk_alloc h o
theorem B.Has.below {w w1 : World} {g N : Nat} (h : B.Has w g N) (hb : Below w.heap.size w w1) : B.Has w1 g N := blk_below h hb
theorem B.Has.new (w : World) (N : Nat) : B.Has (w.alloc (.cells (B.cells N) 91)) w.heap.size N := blk_new w _
theorem B.Has.row {w : World} {g N : Nat} (h : B.Has w g N) (M : Nat) : B.Has (w.setRow g (B.cells M)) g M := setRow_heap w g _ _ _ _ h
theorem B.info : (Try.prog.info? 91).map (·.size) = some 260 := by kernel_rfl
theorem B.under : Try.prog.underlying 91 = some (.array 260 5) := by kernel_rfl
theorem B.Has.put {w : World} {g S i : Nat} {v : Int} (h : B.Has w g (S % 2 ^ i)) (hi : i < 260) (hv : v = B.bit S i) : B.Has (w.setCell ⟨g, i, none⟩ (.int .u8 v)) g (S % 2 ^ (i + 1)) := by
  have := blk_set h i (.int .u8 v)
  rw [B.put S i v hi hv] at this
  exact this
theorem B.infoN (N : Nat) : (Try.prog.info? 91).map (·.size) = some (B.cells N).size := by rw [B.size]; exact B.info
theorem B.and1 {x : Int} (h0 : 0 ≤ x) (h1 : x < 256) : bits .and .u8 x 1 = x % 2 := bits_mask .u8 8 (by decide) wraps_u8 1 (by decide) x h0 h1
theorem B.w1 {i : Int} (h0 : 0 ≤ i) (h1 : i ≤ 1000) : wrap64 (i + 1) = i + 1 := by unfold wrap64; omega
theorem B.w0 {i : Int} (h0 : 0 ≤ i) (h1 : i ≤ 1000) : wrap64 (i - 1) = i - 1 := by unfold wrap64; omega
def lombardref02_size.ord (a b : Nat) : Int := if a < b then -1 else if b < a then 1 else 0
end Go.Proofs.Ytchpeobenlnemaa.S
end

section
namespace Go.Proofs.Ytchpeobenlnemaa.S
open Go.RowKit Go.Proofs.YtchpeobenlnemaaW.PrintWords Go.Proofs.YtchpeobenlnemaaW.PrintLast Go.Proofs.YtchpeobenlnemaaW.PrintMore
attribute [local go_sem] max2_int min2_int max_two min_two max_three min_three max_four min_four   -- for this text's walks alone
attribute [local go_sem] Go.Proofs.Ytchpeobenlnemaa.XWalk.cell2
set_option linter.unusedVariables false
set_option linter.unusedSimpArgs false

/-! ### lombardref02_big: function 65 -/
-- IMPORT BigMath
/-- A sign and a row of bits, as a value. -/
def B.big (less : Bool) (N : Nat) : Array Value := #[.bool less] ++ B.cells N
theorem B.big_get (less : Bool) (N i : Nat) (h : i < 260) : (B.big less N)[1 + i]? = some (.int .u8 (B.bit N i)) := by
  unfold B.big
  rw [Array.getElem?_append_right (by show 1 ≤ 1 + i; omega)]
  show (B.cells N)[1 + i - 1]? = _
  rw [show 1 + i - 1 = i by omega, B.get N i h]
def B.HasB (w : World) (g : Nat) (less : Bool) (N : Nat) : Prop := w.heap[g]? = some (.cells (B.big less N) 93 (0, 0))
theorem B.HasB.cell {w : World} {g N : Nat} {less : Bool} (h : B.HasB w g less N) {i : Nat} (hi : i < 260) : w.cell? ⟨g, 1 + i, none⟩ = some (.int .u8 (B.bit N i)) := by
  rw [cell_of_row w g (1 + i) _ _ _ h, B.big_get _ _ _ hi]
theorem B.HasB.drew {w : World} {g N : Nat} {less : Bool} (h : B.HasB w g less N) (n : Nat) : B.HasB (w.drewN n) g less N := h
theorem B.HasB.set {w : World} {g N : Nat} {less : Bool} (h : B.HasB w g less N) (p : Addr) (u : Value) (hp : g ≠ p.block) : B.HasB (w.setCell p u) g less N := blk_far h hp u
theorem B.HasB.alloc {w : World} {g N : Nat} {less : Bool} (h : B.HasB w g less N) (o : Obj) : B.HasB (w.alloc o) g less N := blk_alloc h o
theorem B.HasB.below {w w1 : World} {g N : Nat} {less : Bool} (h : B.HasB w g less N) (hb : Below w.heap.size w w1) : B.HasB w1 g less N := blk_below h hb
theorem B.HasB.row {w : World} {g N : Nat} {less : Bool} (h : B.HasB w g less N) (l2 : Bool) (M : Nat) : B.HasB (w.setRow g (B.big l2 M)) g l2 M := setRow_heap w g _ _ _ _ h
theorem B.HasB.new (w : World) (less : Bool) (N : Nat) : B.HasB (w.alloc (.cells (B.big less N) 93)) w.heap.size less N := blk_new w _
theorem B.big_put (less : Bool) (N i : Nat) (u : Value) : (B.big less N).setIfInBounds (1 + i) u = #[.bool less] ++ (B.cells N).setIfInBounds i u := by
  unfold B.big
  rw [Array.setIfInBounds_append_right (by simp)]
  congr 2
  simp
theorem B.HasB.put {w : World} {g S i : Nat} {less : Bool} {v : Int} (h : B.HasB w g less (S % 2 ^ i)) (hi : i < 260) (hv : v = B.bit S i) : B.HasB (w.setCell ⟨g, 1 + i, none⟩ (.int .u8 v)) g less (S % 2 ^ (i + 1)) := by
  have := blk_set h (1 + i) (.int .u8 v)
  rw [B.big_put, B.put S i v hi hv] at this
  exact this
theorem B.big_less (l l2 : Bool) (N : Nat) : (B.big l N).setIfInBounds 0 (.bool l2) = B.big l2 N := by
  unfold B.big
  rw [Array.setIfInBounds_append_left (by simp)]
  rfl
theorem B.HasB.less {w : World} {g N : Nat} {less : Bool} (h : B.HasB w g less N) (l2 : Bool) : B.HasB (w.setCell ⟨g, 0, none⟩ (.bool l2)) g l2 N := by
  have := blk_set h 0 (.bool l2)
  rw [B.big_less] at this
  exact this
/-- two words as one number, the sign within -/
def B.two (hi lo : Int) : Nat := ((hi % 18446744073709551616) * 18446744073709551616 + lo).toNat
def B.less (hi : Int) : Bool := decide (hi < 0)
def B.abs (hi lo : Int) : Nat := if hi < 0 then 2 ^ 128 - B.two hi lo else B.two hi lo
end Go.Proofs.Ytchpeobenlnemaa.S
end

section
namespace Go.Proofs.Ytchpeobenlnemaa.S
open Go.RowKit Go.Proofs.YtchpeobenlnemaaW.PrintWords Go.Proofs.YtchpeobenlnemaaW.PrintLast Go.Proofs.YtchpeobenlnemaaW.PrintMore
attribute [local go_sem] max2_int min2_int max_two min_two max_three min_three max_four min_four   -- for this text's walks alone
attribute [local go_sem] Go.Proofs.Ytchpeobenlnemaa.XWalk.cell2
set_option linter.unusedVariables false
set_option linter.unusedSimpArgs false

/-! ### lombardref02_minus: function 72 -/
end Go.Proofs.Ytchpeobenlnemaa.S
end

section
namespace Go.Proofs.Ytchpeobenlnemaa.S
open Go.RowKit Go.Proofs.YtchpeobenlnemaaW.PrintWords Go.Proofs.YtchpeobenlnemaaW.PrintLast Go.Proofs.YtchpeobenlnemaaW.PrintMore
attribute [local go_sem] max2_int min2_int max_two min_two max_three min_three max_four min_four   -- for this text's walks alone
attribute [local go_sem] Go.Proofs.Ytchpeobenlnemaa.XWalk.cell2
set_option linter.unusedVariables false
set_option linter.unusedSimpArgs false

/-! ### lombardref02_quo: function 67 -/
-- IMPORT BigMath
/-- bits that are being moved one up: those above k are moved -/
def B.sh (R k : Nat) : Array Value := Array.ofFn (n := 260) fun j => .int .u8 (if k < j.val then B.bit R (j.val - 1) else B.bit R j.val)
def B.HasC (w : World) (g : Nat) (cs : Array Value) : Prop := w.heap[g]? = some (.cells cs 91 (0, 0))
theorem B.HasC.cell {w : World} {g : Nat} {cs : Array Value} (h : B.HasC w g cs) (i : Nat) : w.cell? ⟨g, i, none⟩ = cs[i]? := cell_of_row w g i _ _ _ h
theorem B.HasC.put {w : World} {g : Nat} {cs : Array Value} (h : B.HasC w g cs) (i : Nat) (u : Value) : B.HasC (w.setCell ⟨g, i, none⟩ u) g (cs.setIfInBounds i u) := blk_set h i u
theorem B.load {o : Oper} {ρ : Operand → Value} {W : World} {g N : Nat} (x : Operand) (ho : o.op = .load 91 x) (hx : ρ x = .pointer (some ⟨g, 0, none⟩)) (h : B.HasC W g (B.cells N)) : (execOp ρ o).run Try.prog W = .ok (.value (.agg (B.cells N))) W := by
  have r := run_loadVar_row (P := Try.prog) W g 91 91 (B.cells N) (0, 0) _ h B.under rfl (B.infoN _)
  unfold execOp
  simp only [ho, hx, Instr.loadAt, Instr.sureAddr, Sem.run_bind, Sem.run_pure, Result.andThen_ok, r]
theorem B.HasC.row {w : World} {g : Nat} {cs : Array Value} (h : B.HasC w g cs) (cs' : Array Value) : B.HasC (w.setRow g cs') g cs' := setRow_heap w g _ _ _ _ h
/-- a bit of the quotient -/
theorem B.Has.one {w : World} {g Q i : Nat} (h : B.Has w g (Q / 2 ^ (i + 1) * 2 ^ (i + 1))) (hi : i < 260) (hq : Go.Proofs.Ytchpeobenlnemaa.BigMath.bitN Q i = 1) : B.Has (w.setCell ⟨g, i, none⟩ (.int .u8 1)) g (Q / 2 ^ i * 2 ^ i) := by
  have := blk_set h i (.int .u8 1)
  have e : (B.cells (Q / 2 ^ (i + 1) * 2 ^ (i + 1))).setIfInBounds i (.int .u8 1) = B.cells (Q / 2 ^ i * 2 ^ i) := by
    refine B.ext _ _ (by rw [Array.size_setIfInBounds, B.size]) fun j hj => ?_
    rw [Array.getElem?_setIfInBounds]
    by_cases c : i = j
    · subst c
      rw [if_pos rfl, if_pos (by rw [B.size]; exact hi)]
      unfold B.bit
      rw [Go.Proofs.Ytchpeobenlnemaa.BigMath.bitN_high, if_pos (by omega), hq]
      rfl
    · rw [if_neg c, B.get _ _ hj]
      unfold B.bit
      rw [Go.Proofs.Ytchpeobenlnemaa.BigMath.bitN_high, Go.Proofs.Ytchpeobenlnemaa.BigMath.bitN_high]
      by_cases d : i + 1 ≤ j
      · rw [if_pos d, if_pos (by omega)]
      · rw [if_neg d, if_neg (by omega)]
  rw [e] at this
  exact this
end Go.Proofs.Ytchpeobenlnemaa.S
end
