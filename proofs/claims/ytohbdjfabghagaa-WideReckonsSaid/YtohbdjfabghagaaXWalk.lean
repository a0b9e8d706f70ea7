/-
  Small laws for the walks of this session.
  Conditions: none.
-/
import Derived.WalkKit
import Derived.Test.YtohbdjfabghagaaWLast
import Derived.Below
import Derived.Laws.Entries
import Derived.Laws.Externs
import Derived.Laws.EntriesVeiled
namespace Go.Proofs.Ytohbdjfabghagaa.XWalk
set_option linter.unusedVariables false
set_option linter.unusedSimpArgs false
open Go.RowKit

/-- A cell that is stored into twice holds what was stored last. -/
theorem setCell2 (w : World) (blk off : Nat) (v v' : Value) : (w.setCell ⟨blk, off, none⟩ v).setCell ⟨blk, off, none⟩ v' = w.setCell ⟨blk, off, none⟩ v' := by
  simp only [World.setCell]
  congr 1
  apply Array.ext
  · simp
  · intro i h1 h2
    simp only [Array.size_modify] at h1 h2
    simp only [Array.getElem_modify]
    split
    · cases w.heap[i] <;> simp
    · rfl

/-- .. and so it reads: one step deep, where the walk's own law would ask two steps down. -/
theorem cell2 (w : World) (blk off : Nat) (v v' : Value) (h : (w.cell? ⟨blk, off, none⟩).isSome = true) : ((w.setCell ⟨blk, off, none⟩ v).setCell ⟨blk, off, none⟩ v').cell? ⟨blk, off, none⟩ = some v' := by
  rw [setCell2]
  exact World.cell?_setCell_same' w _ v' h

/-- Add64's sum and carry, Sub64's difference and borrow. -/
def s64 (x y c : Int) : Int := (x + y + c) % 18446744073709551616
def c64 (x y c : Int) : Int := (x + y + c) / 18446744073709551616
def d64 (x y b : Int) : Int := (x - y - b) % 18446744073709551616
def b64 (x y b : Int) : Int := if x < y + b then 1 else 0

theorem add64_run {P : Program} {f : FuncId} {fn : Func} (hf : P.funcs[f]? = some fn) (h1 : (fn.name == "runtime.NumGoroutine") = false) (h2 : fn.body.isNone = true) (h3 : Extern.findNext fn = none) (h4 : Extern.find fn = some add64Entry)
    (x y c : Int) (hx : 0 ≤ x) (hy : 0 ≤ y) (hc : 0 ≤ c) (hc1 : c ≤ 1) (W : World) :
    (callFunc f #[.int .u64 x, .int .u64 y, .int .u64 c]).run P W = .ok (.value (.tuple #[.int .u64 (s64 x y c), .int .u64 (c64 x y c)])) W := by
  rw [run_callFunc_extern hf h1 h2 h3 h4, run_add64 x y c hx hy hc hc1]
  rfl
/-- Sub64's row among the model's own. -/
abbrev subE : Array Value → Sem Value := (Extern.MathBitsCarry.rows[1]'(Nat.lt_succ_self 1)).2
theorem run_subE {P : Program} (x y b : Nat) (hb : b ≤ 1) (w : World) :
    (subE #[.int .u64 x, .int .u64 y, .int .u64 b]).run P w =
      .ok (.tuple #[.int .u64 (((x + 18446744073709551616 - y - b) % 18446744073709551616 : Nat) : Int), .int .u64 ((if x < y + b then 1 else 0 : Nat) : Int)]) w := by
  have : b = 0 ∨ b = 1 := by omega
  rcases this with rfl | rfl <;> rfl
theorem sub64_run {P : Program} {f : FuncId} {fn : Func} (hf : P.funcs[f]? = some fn) (h1 : (fn.name == "runtime.NumGoroutine") = false) (h2 : fn.body.isNone = true) (h3 : Extern.findNext fn = none) (h4 : Extern.find fn = some subE)
    (x y b : Int) (hx : 0 ≤ x) (hx2 : x < 18446744073709551616) (hy : 0 ≤ y) (hy2 : y < 18446744073709551616) (hb : 0 ≤ b) (hb1 : b ≤ 1) (W : World) :
    (callFunc f #[.int .u64 x, .int .u64 y, .int .u64 b]).run P W = .ok (.value (.tuple #[.int .u64 (d64 x y b), .int .u64 (b64 x y b)])) W := by
  obtain ⟨x, rfl⟩ := Int.eq_ofNat_of_zero_le hx
  obtain ⟨y, rfl⟩ := Int.eq_ofNat_of_zero_le hy
  obtain ⟨b, rfl⟩ := Int.eq_ofNat_of_zero_le hb
  rw [run_callFunc_extern hf h1 h2 h3 h4, run_subE x y b (by omega)]
  have e1 : (((x + 18446744073709551616 - y - b) % 18446744073709551616 : Nat) : Int) = d64 x y b := by
    unfold d64
    omega
  have e2 : ((if x < y + b then 1 else 0 : Nat) : Int) = b64 x y b := by
    unfold b64
    split <;> split <;> omega
  rw [e1, e2]
  rfl
section
variable {P : Program} {ops : Array Oper} {rest : List Oper} {Q : Exit → Act → World → Prop} {a : Act}
/-- A variable of one cell is laid, and written at once. -/
theorem alloc_store_event {W : World} {oa os : Oper} {N : Tmp} {T : TypeId} {z v : Value} (hga : oa.guard = none) (hgs : os.guard = none) (hd : oa.dst = some N) (hds : os.dst = none)
    (hr1 : (execOp a.eval oa).run P W = .ok (.value (.pointer (some ⟨W.heap.size, 0, none⟩))) (W.alloc (.cells #[z] T (0, 0))))
    (hr2 : (execOp (a.put oa.dst (.pointer (some ⟨W.heap.size, 0, none⟩))).eval os).run P (W.alloc (.cells #[z] T (0, 0))) = .ok .skip ((W.alloc (.cells #[z] T (0, 0))).setCell ⟨W.heap.size, 0, none⟩ v))
    (h : ∀ g, g = W.heap.size → ∀ w1, w1.heap[g]? = some (.cells #[v] T (0, 0)) → Below W.heap.size W w1 → wpList P ops Q rest (a.put oa.dst (.pointer (some ⟨g, 0, none⟩))) w1) : wpList P ops Q (oa :: os :: rest) a W := by
  refine wpList_plain hga fun K hK => ?_
  unfold Oper.wp
  rw [hr1]
  refine hK _ _ ?_
  refine wpList_plain hgs fun K2 hK2 => ?_
  unfold Oper.wp
  rw [hr2]
  have hp : ∀ (b : Act) (u : Value), b.put os.dst u = b := fun b u => by rw [hds]; rfl
  refine hK2 _ _ ?_
  rw [hp]
  refine h _ rfl _ ?_ (Below.setCell (p := ⟨W.heap.size, 0, none⟩) ((Below.refl W.heap.size W).alloc (Nat.le_refl _) _) (Nat.le_refl _) _)
  show (((W.alloc (.cells #[z] T (0, 0))).heap).modify W.heap.size _)[W.heap.size]? = _
  have hlt : W.heap.size < (W.alloc (.cells #[z] T (0, 0))).heap.size := by rw [World.size_alloc]; omega
  have hk := heap_alloc_new W (.cells #[z] T (0, 0))
  rw [Array.getElem?_eq_getElem hlt] at hk
  rw [Array.getElem?_eq_getElem (by rw [Array.size_modify]; exact hlt), Array.getElem_modify_self, Option.some.inj hk]
  rfl
end
section
open Go.Proofs.YtohbdjfabghagaaW.PrintLast
variable {P : Program} {ops : Array Oper} {Q : Exit → Act → World → Prop}
/-- A call by a function value that stands in a temporary. -/
theorem goesV_ {oi : Oper} {N : Option Tmp} {a : Act} {w : World} {K : Act → World → Prop} {f : FuncId} {fn : Func} {c : Operand} {as : Array Operand} {ts : Array TypeId} {caps : Array Value} (hf : P.funcs[f]? = some fn) (hname : (fn.name == "runtime.NumGoroutine") = false) (hb : fn.body.isSome = true) (args : Array Value)
    (hw : Region.wanted oi (yielded ops a.tmps) = true) (hN : oi.dst = N) (hop : oi.op = .call { callee := .value c, args := as, argTypes := ts }) (hc : a.eval c = .func (.func f) #[] caps) (hargs : as.map a.eval ++ caps = args)
    (h : Calls P f args w fun e w' => ∃ v, e = .returned v ∧ K (a.put N v) w') : if Region.wanted oi (yielded ops a.tmps) = true then Oper.wp P oi a w K Q else K (a.put N undef) w := by
  refine call_ f args hw hN ?_ h
  have he := enters_ hf hname hb args w
  unfold execOp
  simp [hop, resolve, Deferred.ofValue, invoke, hc, hargs, he]
end
end Go.Proofs.Ytohbdjfabghagaa.XWalk
