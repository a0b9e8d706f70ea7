/- Printed by a program of this session out of the translation: what each function called here computes, and that its call comes to just that. Conditions: none beyond those that each theorem names. -/
import Derived.Test.YtioicmialbimfaaSx0
namespace Go.Proofs.Ytioicmialbimfaa.S
open Go.RowKit Go.Proofs.YtioicmialbimfaaW.PrintWords Go.Proofs.YtioicmialbimfaaW.PrintLast Go.Proofs.YtioicmialbimfaaW.PrintMore
attribute [local go_sem] max2_int min2_int max_two min_two max_three min_three max_four min_four   -- for this text's walks alone
attribute [local go_sem] Go.Proofs.Ytioicmialbimfaa.XWalk.cell2
set_option linter.unusedVariables false
set_option linter.unusedSimpArgs false

/-! ### count_Basis: function 33 -/
/-- The rows of the ways: a year's days, and how days are counted. -/
def count_ways.cells : Array Value := #[.int .i64 0, .nilFunc, .int .i64 360, .func (.func 51) #[] #[], .int .i64 360, .func (.func 52) #[] #[], .int .i64 365, .func (.func 52) #[] #[]]
theorem count_ways.calls (w : World) : Calls Try.prog 43 #[] w fun e w' => e = .returned (.slice (some ⟨w.heap.size, 0, none⟩) 4 4) ∧ w'.heap[w.heap.size]? = some (.cells count_ways.cells 66 (0, 0)) ∧ Below w.heap.size w w' := by
  have W1 := below_alloc (Below.refl w.heap.size w) (.cells count_ways.cells 66)
  go_enter Try.func43, Try.ntmps43
  go_wp2
  go_ret
  exact ⟨rfl, blk_new w _, W1⟩
def count_Basis.v (a : Int) : Int := if a = 1 ∨ a = 2 then 360 else if a = 3 then 365 else 0
def count_find.fn (a : Int) : Value := if a = 1 then .func (.func 51) #[] #[] else if a = 2 ∨ a = 3 then .func (.func 52) #[] #[] else .nilFunc
set_option maxHeartbeats 4000000 in
theorem count_find.out (a : Int) (g : Nat) (w : World) (h : w.heap[g]? = some (.cells count_ways.cells 66 (0, 0))) (ha : a < 0 ∨ 4 ≤ a) : Calls Try.prog 42 #[.slice (some ⟨g, 0, none⟩) 4 4, .int .i64 a] w fun e w' => e = .returned (.agg #[.int .i64 0, .nilFunc]) ∧ Below w.heap.size w w' := by
  have HB := below_alloc (Below.refl w.heap.size w) (.cells #[.int .i64 0, .nilFunc] 66)
  rcases ha with ha | ha
  · have q1 : decide (0 ≤ a) = false := decide_eq_false (by omega)
    clear ha
    go_enter Try.func42, Try.ntmps42
    go_wp2
    refine bodyPost_ret (results_cell_row rfl _ _ w.heap.size 66 #[.int .i64 0, .nilFunc] (0, 0) _ rfl (blk_new w _) Try.underlying66 rfl (by kernel_rfl)) rfl ?_
    exact ⟨rfl, HB⟩
  · have q1 : decide (0 ≤ a) = true := decide_eq_true (by omega)
    have q2 : decide (a < 4) = false := decide_eq_false (by omega)
    clear ha
    go_enter Try.func42, Try.ntmps42
    go_wp2
    refine bodyPost_ret (results_cell_row rfl _ _ w.heap.size 66 #[.int .i64 0, .nilFunc] (0, 0) _ rfl (blk_new w _) Try.underlying66 rfl (by kernel_rfl)) rfl ?_
    exact ⟨rfl, HB⟩
set_option maxHeartbeats 4000000 in
theorem count_find.at0 (g : Nat) (w : World) (h : w.heap[g]? = some (.cells count_ways.cells 66 (0, 0))) : Calls Try.prog 42 #[.slice (some ⟨g, 0, none⟩) 4 4, .int .i64 0] w fun e w' => e = .returned (.agg #[.int .i64 0, .nilFunc]) ∧ Below w.heap.size w w' := by
  have hg := blk_lt h
  have c0 : w.cell? ⟨g, 0, none⟩ = some (.int .i64 0) := blk_cell h 0
  have c1 : w.cell? ⟨g, 1, none⟩ = some (.nilFunc) := blk_cell h 1
  have HB := (below_alloc (Below.refl w.heap.size w) (.cells #[.int .i64 0, .nilFunc] 66))
  go_enter Try.func42, Try.ntmps42
  go_wp2
  refine bodyPost_ret (results_cell_row rfl _ _ w.heap.size 66 #[.int .i64 0, .nilFunc] (0, 0) _ rfl (blk_new w _) Try.underlying66 rfl (by kernel_rfl)) rfl ?_
  exact ⟨rfl, HB⟩
set_option maxHeartbeats 4000000 in
theorem count_find.at1 (g : Nat) (w : World) (h : w.heap[g]? = some (.cells count_ways.cells 66 (0, 0))) : Calls Try.prog 42 #[.slice (some ⟨g, 0, none⟩) 4 4, .int .i64 1] w fun e w' => e = .returned (.agg #[.int .i64 360, .func (.func 51) #[] #[]]) ∧ Below w.heap.size w w' := by
  have hg := blk_lt h
  have c0 : w.cell? ⟨g, 2, none⟩ = some (.int .i64 360) := blk_cell h 2
  have c1 : w.cell? ⟨g, 3, none⟩ = some (.func (.func 51) #[] #[]) := blk_cell h 3
  have HB := (below_alloc (Below.refl w.heap.size w) (.cells #[.int .i64 360, .func (.func 51) #[] #[]] 66))
  go_enter Try.func42, Try.ntmps42
  go_wp2
  refine bodyPost_ret (results_cell_row rfl _ _ w.heap.size 66 #[.int .i64 360, .func (.func 51) #[] #[]] (0, 0) _ rfl (blk_new w _) Try.underlying66 rfl (by kernel_rfl)) rfl ?_
  exact ⟨rfl, HB⟩
set_option maxHeartbeats 4000000 in
theorem count_find.at2 (g : Nat) (w : World) (h : w.heap[g]? = some (.cells count_ways.cells 66 (0, 0))) : Calls Try.prog 42 #[.slice (some ⟨g, 0, none⟩) 4 4, .int .i64 2] w fun e w' => e = .returned (.agg #[.int .i64 360, .func (.func 52) #[] #[]]) ∧ Below w.heap.size w w' := by
  have hg := blk_lt h
  have c0 : w.cell? ⟨g, 4, none⟩ = some (.int .i64 360) := blk_cell h 4
  have c1 : w.cell? ⟨g, 5, none⟩ = some (.func (.func 52) #[] #[]) := blk_cell h 5
  have HB := (below_alloc (Below.refl w.heap.size w) (.cells #[.int .i64 360, .func (.func 52) #[] #[]] 66))
  go_enter Try.func42, Try.ntmps42
  go_wp2
  refine bodyPost_ret (results_cell_row rfl _ _ w.heap.size 66 #[.int .i64 360, .func (.func 52) #[] #[]] (0, 0) _ rfl (blk_new w _) Try.underlying66 rfl (by kernel_rfl)) rfl ?_
  exact ⟨rfl, HB⟩
set_option maxHeartbeats 4000000 in
theorem count_find.at3 (g : Nat) (w : World) (h : w.heap[g]? = some (.cells count_ways.cells 66 (0, 0))) : Calls Try.prog 42 #[.slice (some ⟨g, 0, none⟩) 4 4, .int .i64 3] w fun e w' => e = .returned (.agg #[.int .i64 365, .func (.func 52) #[] #[]]) ∧ Below w.heap.size w w' := by
  have hg := blk_lt h
  have c0 : w.cell? ⟨g, 6, none⟩ = some (.int .i64 365) := blk_cell h 6
  have c1 : w.cell? ⟨g, 7, none⟩ = some (.func (.func 52) #[] #[]) := blk_cell h 7
  have HB := (below_alloc (Below.refl w.heap.size w) (.cells #[.int .i64 365, .func (.func 52) #[] #[]] 66))
  go_enter Try.func42, Try.ntmps42
  go_wp2
  refine bodyPost_ret (results_cell_row rfl _ _ w.heap.size 66 #[.int .i64 365, .func (.func 52) #[] #[]] (0, 0) _ rfl (blk_new w _) Try.underlying66 rfl (by kernel_rfl)) rfl ?_
  exact ⟨rfl, HB⟩
theorem count_find.calls (a : Int) (g : Nat) (w : World) (h : w.heap[g]? = some (.cells count_ways.cells 66 (0, 0))) : Calls Try.prog 42 #[.slice (some ⟨g, 0, none⟩) 4 4, .int .i64 a] w fun e w' => e = .returned (.agg #[.int .i64 (count_Basis.v a), count_find.fn a]) ∧ Below w.heap.size w w' := by
  rcases (show (a < 0 ∨ 4 ≤ a) ∨ a = 0 ∨ a = 1 ∨ a = 2 ∨ a = 3 by omega) with ha | rfl | rfl | rfl | rfl
  · have e1 : count_Basis.v a = 0 := by unfold count_Basis.v; rw [if_neg (by omega), if_neg (by omega)]
    have e2 : count_find.fn a = .nilFunc := by unfold count_find.fn; rw [if_neg (by omega), if_neg (by omega)]
    rw [e1, e2]
    exact count_find.out a g w h ha
  · exact count_find.at0 g w h
  · exact count_find.at1 g w h
  · exact count_find.at2 g w h
  · exact count_find.at3 g w h
def count_Basis.f (a0 : Int) : Option Int := some (count_Basis.v a0)
set_option maxHeartbeats 4000000 in
theorem count_Basis.calls (a0 r : Int) (w : World) (h : count_Basis.f a0 = some r) : Calls Try.prog 33 #[.int .i64 a0] w fun e w' => e = .returned (.int .i64 r) ∧ Below w.heap.size w w' := by
  obtain rfl := Option.some.inj h
  clear h
  obtain ⟨g, hg⟩ : ∃ g, g = w.heap.size := ⟨_, rfl⟩
  have WY : Aside0 (Calls Try.prog 43 #[] w fun e w' => e = .returned (.slice (some ⟨g, 0, none⟩) 4 4) ∧ w'.heap[g]? = some (.cells count_ways.cells 66 (0, 0)) ∧ Below w.heap.size w w') := ⟨by rw [hg]; exact count_ways.calls w⟩
  have FD : Aside0 (∀ W : World, W.heap[g]? = some (.cells count_ways.cells 66 (0, 0)) → Calls Try.prog 42 #[.slice (some ⟨g, 0, none⟩) 4 4, .int .i64 a0] W fun e w' => e = .returned (.agg #[.int .i64 (count_Basis.v a0), count_find.fn a0]) ∧ Below W.heap.size W w') := ⟨fun W h => count_find.calls a0 g W h⟩
  clear hg
  generalize count_Basis.v a0 = v at *
  generalize count_find.fn a0 = u at *
  have fl : ∀ W, (Instr.field 66 (.agg #[.int .i64 v, u]) 0).run Try.prog W = .ok (.int .i64 v) W := fun W => by simp [Instr.field, Try.underlying66, go_sem, asAgg]
  go_enter Try.func33, Try.ntmps33
  go_wp2_with (first | (go_at_call 43; (with_reducible refine WY.out.mono ?_); rintro e w1 ⟨rfl, hg1, h1⟩; replace hg1 := Aside0.mk hg1) | (go_at_call 42; (with_reducible refine (FD.out _ hg1.out).mono ?_); rintro e w2 ⟨rfl, h2⟩))
  go_ret
  exact ⟨rfl, below_then h1 h1.size h2⟩


end Go.Proofs.Ytioicmialbimfaa.S
