/-
 Small laws for the walks of this session.
 Conditions: none.
-/
import Derived.WalkKit
import Derived.Test.YtjgleaakgbnjgaaWLast
import Derived.Below
import Derived.Laws.Entries
import Derived.Laws.Externs
import Derived.Laws.EntriesVeiled
set_option linter.unusedSimpArgs false
set_option linter.unusedVariables false
namespace Go.Proofs.Ytjgleaakgbnjgaa.XWalk
open Go.RowKit
theorem setCell2 (w : World) (blk off : Nat) (v v' : Value) : (w.setCell ⟨blk, off, none⟩ v).setCell ⟨blk, off, none⟩ v' = w.setCell ⟨blk, off, none⟩ v' := by
 simp only [World.setCell]
 congr 1
 apply Array.ext
 ·simp
 ·intro i h1 h2
  simp only [Array.size_modify] at h1 h2
  simp only [Array.getElem_modify]
  split
  ·cases w.heap[i] <;> simp
  ·rfl
theorem cell2 (w : World) (blk off : Nat) (v v' : Value) (h : (w.cell? ⟨blk, off, none⟩).isSome = true) : ((w.setCell ⟨blk, off, none⟩ v).setCell ⟨blk, off, none⟩ v').cell? ⟨blk, off, none⟩ = some v' := by
 rw [setCell2]
 exact World.cell?_setCell_same' w _ v' h
def s64 (x y c : Int) : Int := (x + y + c) % 18446744073709551616
def c64 (x y c : Int) : Int := (x + y + c) / 18446744073709551616
def d64 (x y b : Int) : Int := (x - y - b) % 18446744073709551616
def b64 (x y b : Int) : Int := if x < y + b then 1 else 0
theorem add64_run {P : Program} {f : FuncId} {fn : Func} (hf : P.funcs[f]? = some fn) (h1 : (fn.name == "runtime.NumGoroutine") = false) (h2 : fn.body.isNone = true) (h3 : Extern.findNext fn = none) (h4 : Extern.find fn = some add64Entry)
  (x y c : Int) (hx : 0 ≤ x) (hy : 0 ≤ y) (hc : 0 ≤ c) (hc1 : c ≤ 1) (W : World) :
  (callFunc f #[.int .u64 x, .int .u64 y, .int .u64 c]).run P W = .ok (.value (.tuple #[.int .u64 (s64 x y c), .int .u64 (c64 x y c)])) W := by
 rw [run_callFunc_extern hf h1 h2 h3 h4, run_add64 x y c hx hy hc hc1]
 rfl
abbrev subE : Array Value → Sem Value := (Extern.MathBitsCarry.rows[1]'(Nat.lt_succ_self 1)).2
theorem run_subE {P : Program} (x y b : Nat) (hb : b ≤ 1) (w : World) :
  (subE #[.int .u64 x, .int .u64 y, .int .u64 b]).run P w =
   .ok (.tuple #[.int .u64 (((x + 18446744073709551616 - y - b) % 18446744073709551616 : Nat) : Int), .int .u64 ((if x < y + b then 1 else 0 : Nat) : Int)]) w := by
 have : b = 0 ∨ b = 1 := by omega
 rcases this with rfl | rfl <;> rfl
theorem sub64_run {P : Program} {f : FuncId} {fn : Func} (hf : P.funcs[f]? = some fn) (h1 : (fn.name == "runtime.NumGoroutine") = false) (h2 : fn.body.isNone = true) (h3 : Extern.findNext fn = none) (h4 : Extern.find fn = some subE)
  (x y b : Int) (hx : 0 ≤ x) (hx2 : x < 18446744073709551616) (hy : 0 ≤ y) (hy2 : y < 18446744073709551616) (hb : 0 ≤ b) (hb1 : b ≤ 1) (W : World) :
  (callFunc f #[.int .u64 x, .int .u64 y, .int .u64 b]).run P W = .ok (.value (.tuple #[.int .u64 (d64 x y b), .int .u64 (b64 x y b)])) W := by
 obtain ⟨x, rfl⟩ := Int.eq_ofNat_of_zero_le hx
 obtain ⟨y, rfl⟩ := Int.eq_ofNat_of_zero_le hy
 obtain ⟨b, rfl⟩ := Int.eq_ofNat_of_zero_le hb
 rw [run_callFunc_extern hf h1 h2 h3 h4, run_subE x y b (by omega)]
 have e1 : (((x + 18446744073709551616 - y - b) % 18446744073709551616 : Nat) : Int) = d64 x y b := by
  unfold d64
  omega
 have e2 : ((if x < y + b then 1 else 0 : Nat) : Int) = b64 x y b := by
  unfold b64
  split <;> split <;> omega
 rw [e1, e2]
 rfl
section
open Go.Proofs.YtjgleaakgbnjgaaW.PrintLast
variable {P : Program} {ops : Array Oper} {Q : Exit → Act → World → Prop}
theorem goesV_ {oi : Oper} {N : Option Tmp} {a : Act} {w : World} {K : Act → World → Prop} {f : FuncId} {fn : Func} {c : Operand} {az : Array Operand} {ts : Array TypeId} {caps : Array Value} (hf : P.funcs[f]? = some fn) (hname : (fn.name == "runtime.NumGoroutine") = false) (hb : fn.body.isSome = true) (args : Array Value)
  (hw : Region.wanted oi (yielded ops a.tmps) = true) (hN : oi.dst = N) (hop : oi.op = .call { callee := .value c, args := az, argTypes := ts }) (hc : a.eval c = .func (.func f) #[] caps) (hargs : az.map a.eval ++ caps = args)
  (h : Calls P f args w fun e w' => ∃ v, e = .returned v ∧ K (a.put N v) w') : if Region.wanted oi (yielded ops a.tmps) = true then Oper.wp P oi a w K Q else K (a.put N undef) w := by
 refine call_ f args hw hN ?_ h
 have he := enters_ hf hname hb args w
 unfold execOp
 simp [hop, resolve, Deferred.ofValue, invoke, hc, hargs, he]
end
end Go.Proofs.Ytjgleaakgbnjgaa.XWalk
