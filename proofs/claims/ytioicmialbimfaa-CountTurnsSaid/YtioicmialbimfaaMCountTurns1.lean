/- Texts of the statement CountTurnsSaid, laid together. Conditions: none beyond those that each theorem names. -/
import Derived.Test.YtioicmialbimfaaSx0
import Derived.Test.YtioicmialbimfaaSxDayTo
import Derived.Test.YtioicmialbimfaaSxMathBitsMul64
section
namespace Go.Proofs.Ytioicmialbimfaa.S
open Go.RowKit Go.Proofs.YtioicmialbimfaaW.PrintWords Go.Proofs.YtioicmialbimfaaW.PrintLast Go.Proofs.YtioicmialbimfaaW.PrintMore
attribute [local go_sem] max2_int min2_int max_two min_two max_three min_three max_four min_four   -- for this text's walks alone
attribute [local go_sem] Go.Proofs.Ytioicmialbimfaa.XWalk.cell2
set_option linter.unusedVariables false
set_option linter.unusedSimpArgs false

/-! ### count_Basis: function 33 -/
/-- The rows of the ways: a year's days, and how days are counted. -/
def count_ways.cells : Array Value := #[.int .i64 0, .nilFunc, .int .i64 360, .func (.func 51) #[] #[], .int .i64 360, .func (.func 52) #[] #[], .int .i64 365, .func (.func 52) #[] #[]]
theorem count_ways.calls (w : World) : Calls Try.prog 43 #[] w fun e w' => e = .returned (.slice (some ⟨w.heap.size, 0, none⟩) 4 4) ∧ w'.heap[w.heap.size]? = some (.cells count_ways.cells 66 (0, 0)) ∧ Below w.heap.size w w' := by
  have W1 := below_alloc (Below.refl w.heap.size w) (.cells count_ways.cells 66)
  go_enter Try.func43, Try.ntmps43
  go_wp2
  go_ret
  exact ⟨rfl, blk_new w _, W1⟩
def count_Basis.v (a : Int) : Int := if a = 1 ∨ a = 2 then 360 else if a = 3 then 365 else 0
def count_find.fn (a : Int) : Value := if a = 1 then .func (.func 51) #[] #[] else if a = 2 ∨ a = 3 then .func (.func 52) #[] #[] else .nilFunc
set_option maxHeartbeats 4000000 in
theorem count_find.out (a : Int) (g : Nat) (w : World) (h : w.heap[g]? = some (.cells count_ways.cells 66 (0, 0))) (ha : a < 0 ∨ 4 ≤ a) : Calls Try.prog 42 #[.slice (some ⟨g, 0, none⟩) 4 4, .int .i64 a] w fun e w' => e = .returned (.agg #[.int .i64 0, .nilFunc]) ∧ Below w.heap.size w w' := by
  have HB := below_alloc (Below.refl w.heap.size w) (.cells #[.int .i64 0, .nilFunc] 66)
  rcases ha with ha | ha
  · have q1 : decide (0 ≤ a) = false := decide_eq_false (by omega)
    clear ha
    go_enter Try.func42, Try.ntmps42
    go_wp2
    refine bodyPost_ret (results_cell_row rfl _ _ w.heap.size 66 #[.int .i64 0, .nilFunc] (0, 0) _ rfl (blk_new w _) Try.underlying66 rfl (by kernel_rfl)) rfl ?_
    exact ⟨rfl, HB⟩
  · have q1 : decide (0 ≤ a) = true := decide_eq_true (by omega)
    have q2 : decide (a < 4) = false := decide_eq_false (by omega)
    clear ha
    go_enter Try.func42, Try.ntmps42
    go_wp2
    refine bodyPost_ret (results_cell_row rfl _ _ w.heap.size 66 #[.int .i64 0, .nilFunc] (0, 0) _ rfl (blk_new w _) Try.underlying66 rfl (by kernel_rfl)) rfl ?_
    exact ⟨rfl, HB⟩
set_option maxHeartbeats 4000000 in
theorem count_find.at0 (g : Nat) (w : World) (h : w.heap[g]? = some (.cells count_ways.cells 66 (0, 0))) : Calls Try.prog 42 #[.slice (some ⟨g, 0, none⟩) 4 4, .int .i64 0] w fun e w' => e = .returned (.agg #[.int .i64 0, .nilFunc]) ∧ Below w.heap.size w w' := by
  have hg := blk_lt h
  have c0 : w.cell? ⟨g, 0, none⟩ = some (.int .i64 0) := blk_cell h 0
  have c1 : w.cell? ⟨g, 1, none⟩ = some (.nilFunc) := blk_cell h 1
  have HB := (below_alloc (Below.refl w.heap.size w) (.cells #[.int .i64 0, .nilFunc] 66))
  go_enter Try.func42, Try.ntmps42
  go_wp2
  refine bodyPost_ret (results_cell_row rfl _ _ w.heap.size 66 #[.int .i64 0, .nilFunc] (0, 0) _ rfl (blk_new w _) Try.underlying66 rfl (by kernel_rfl)) rfl ?_
  exact ⟨rfl, HB⟩
set_option maxHeartbeats 4000000 in
theorem count_find.at1 (g : Nat) (w : World) (h : w.heap[g]? = some (.cells count_ways.cells 66 (0, 0))) : Calls Try.prog 42 #[.slice (some ⟨g, 0, none⟩) 4 4, .int .i64 1] w fun e w' => e = .returned (.agg #[.int .i64 360, .func (.func 51) #[] #[]]) ∧ Below w.heap.size w w' := by
  have hg := blk_lt h
  have c0 : w.cell? ⟨g, 2, none⟩ = some (.int .i64 360) := blk_cell h 2
  have c1 : w.cell? ⟨g, 3, none⟩ = some (.func (.func 51) #[] #[]) := blk_cell h 3
  have HB := (below_alloc (Below.refl w.heap.size w) (.cells #[.int .i64 360, .func (.func 51) #[] #[]] 66))
  go_enter Try.func42, Try.ntmps42
  go_wp2
  refine bodyPost_ret (results_cell_row rfl _ _ w.heap.size 66 #[.int .i64 360, .func (.func 51) #[] #[]] (0, 0) _ rfl (blk_new w _) Try.underlying66 rfl (by kernel_rfl)) rfl ?_
  exact ⟨rfl, HB⟩
set_option maxHeartbeats 4000000 in
theorem count_find.at2 (g : Nat) (w : World) (h : w.heap[g]? = some (.cells count_ways.cells 66 (0, 0))) : Calls Try.prog 42 #[.slice (some ⟨g, 0, none⟩) 4 4, .int .i64 2] w fun e w' => e = .returned (.agg #[.int .i64 360, .func (.func 52) #[] #[]]) ∧ Below w.heap.size w w' := by
  have hg := blk_lt h
  have c0 : w.cell? ⟨g, 4, none⟩ = some (.int .i64 360) := blk_cell h 4
  have c1 : w.cell? ⟨g, 5, none⟩ = some (.func (.func 52) #[] #[]) := blk_cell h 5
  have HB := (below_alloc (Below.refl w.heap.size w) (.cells #[.int .i64 360, .func (.func 52) #[] #[]] 66))
  go_enter Try.func42, Try.ntmps42
  go_wp2
  refine bodyPost_ret (results_cell_row rfl _ _ w.heap.size 66 #[.int .i64 360, .func (.func 52) #[] #[]] (0, 0) _ rfl (blk_new w _) Try.underlying66 rfl (by kernel_rfl)) rfl ?_
  exact ⟨rfl, HB⟩
set_option maxHeartbeats 4000000 in
theorem count_find.at3 (g : Nat) (w : World) (h : w.heap[g]? = some (.cells count_ways.cells 66 (0, 0))) : Calls Try.prog 42 #[.slice (some ⟨g, 0, none⟩) 4 4, .int .i64 3] w fun e w' => e = .returned (.agg #[.int .i64 365, .func (.func 52) #[] #[]]) ∧ Below w.heap.size w w' := by
  have hg := blk_lt h
  have c0 : w.cell? ⟨g, 6, none⟩ = some (.int .i64 365) := blk_cell h 6
  have c1 : w.cell? ⟨g, 7, none⟩ = some (.func (.func 52) #[] #[]) := blk_cell h 7
  have HB := (below_alloc (Below.refl w.heap.size w) (.cells #[.int .i64 365, .func (.func 52) #[] #[]] 66))
  go_enter Try.func42, Try.ntmps42
  go_wp2
  refine bodyPost_ret (results_cell_row rfl _ _ w.heap.size 66 #[.int .i64 365, .func (.func 52) #[] #[]] (0, 0) _ rfl (blk_new w _) Try.underlying66 rfl (by kernel_rfl)) rfl ?_
  exact ⟨rfl, HB⟩
theorem count_find.calls (a : Int) (g : Nat) (w : World) (h : w.heap[g]? = some (.cells count_ways.cells 66 (0, 0))) : Calls Try.prog 42 #[.slice (some ⟨g, 0, none⟩) 4 4, .int .i64 a] w fun e w' => e = .returned (.agg #[.int .i64 (count_Basis.v a), count_find.fn a]) ∧ Below w.heap.size w w' := by
  rcases (show (a < 0 ∨ 4 ≤ a) ∨ a = 0 ∨ a = 1 ∨ a = 2 ∨ a = 3 by omega) with ha | rfl | rfl | rfl | rfl
  · have e1 : count_Basis.v a = 0 := by unfold count_Basis.v; rw [if_neg (by omega), if_neg (by omega)]
    have e2 : count_find.fn a = .nilFunc := by unfold count_find.fn; rw [if_neg (by omega), if_neg (by omega)]
    rw [e1, e2]
    exact count_find.out a g w h ha
  · exact count_find.at0 g w h
  · exact count_find.at1 g w h
  · exact count_find.at2 g w h
  · exact count_find.at3 g w h
def count_Basis.f (a0 : Int) : Option Int := some (count_Basis.v a0)
set_option maxHeartbeats 4000000 in
theorem count_Basis.calls (a0 r : Int) (w : World) (h : count_Basis.f a0 = some r) : Calls Try.prog 33 #[.int .i64 a0] w fun e w' => e = .returned (.int .i64 r) ∧ Below w.heap.size w w' := by
  obtain rfl := Option.some.inj h
  clear h
  obtain ⟨g, hg⟩ : ∃ g, g = w.heap.size := ⟨_, rfl⟩
  have WY : Aside0 (Calls Try.prog 43 #[] w fun e w' => e = .returned (.slice (some ⟨g, 0, none⟩) 4 4) ∧ w'.heap[g]? = some (.cells count_ways.cells 66 (0, 0)) ∧ Below w.heap.size w w') := ⟨by rw [hg]; exact count_ways.calls w⟩
  have FD : Aside0 (∀ W : World, W.heap[g]? = some (.cells count_ways.cells 66 (0, 0)) → Calls Try.prog 42 #[.slice (some ⟨g, 0, none⟩) 4 4, .int .i64 a0] W fun e w' => e = .returned (.agg #[.int .i64 (count_Basis.v a0), count_find.fn a0]) ∧ Below W.heap.size W w') := ⟨fun W h => count_find.calls a0 g W h⟩
  clear hg
  generalize count_Basis.v a0 = v at *
  generalize count_find.fn a0 = u at *
  have fl : ∀ W, (Instr.field 66 (.agg #[.int .i64 v, u]) 0).run Try.prog W = .ok (.int .i64 v) W := fun W => by simp [Instr.field, Try.underlying66, go_sem, asAgg]
  go_enter Try.func33, Try.ntmps33
  go_wp2_with (first | (go_at_call 43; (with_reducible refine WY.out.mono ?_); rintro e w1 ⟨rfl, hg1, h1⟩; replace hg1 := Aside0.mk hg1) | (go_at_call 42; (with_reducible refine (FD.out _ hg1.out).mono ?_); rintro e w2 ⟨rfl, h2⟩))
  go_ret
  exact ⟨rfl, below_then h1 h1.size h2⟩


end Go.Proofs.Ytioicmialbimfaa.S
end

section
namespace Go.Proofs.Ytioicmialbimfaa.S
open Go.RowKit Go.Proofs.YtioicmialbimfaaW.PrintWords Go.Proofs.YtioicmialbimfaaW.PrintLast Go.Proofs.YtioicmialbimfaaW.PrintMore
attribute [local go_sem] max2_int min2_int max_two min_two max_three min_three max_four min_four   -- for this text's walks alone
attribute [local go_sem] Go.Proofs.Ytioicmialbimfaa.XWalk.cell2
set_option linter.unusedVariables false
set_option linter.unusedSimpArgs false

/-! ### count_flat_1: function 68 -/
def count_flat_1.f (k : Nat) (a0 : Int) : Option (Int) := (day_To.f k a0).bind fun bt279 => (some (wrap64 ((wrap64 ((wrap64 (360 * bt279.1)) + (wrap64 (30 * bt279.2.1)))) + (mn bt279.2.2.1 30))))
theorem count_flat_1.mono : ∀ a0 k, LeO (count_flat_1.f k a0) (count_flat_1.f (k + 1) a0) := by
  intro a0 k
  unfold count_flat_1.f
  repeat' first
      | (with_reducible exact day_To.mono _ _)
      | (with_reducible exact LeO.refl _)
      | (with_reducible exact LeO.none _)
      | (with_reducible refine LeO.ite ?_ ?_)
      | (with_reducible refine LeO.bind ?_ (fun _ => ?_))
      | exact day_To.mono _ _
      | exact LeO.none _
      | refine LeO.ite ?_ ?_
      | refine LeO.bind ?_ (fun _ => ?_)
set_option maxHeartbeats 8000000 in
set_option maxRecDepth 100000 in
theorem count_flat_1.calls (k : Nat) (a0 : Int) (r : Int) (w : World) (h : count_flat_1.f k a0 = some r) :
    Calls Try.prog 68 #[.int .i64 a0] w fun e w' => e = .returned (.int .i64 r) ∧ Below w.heap.size w w' := by
  have hu50 := Try.underlying50
  have HB := Aside0.mk (Below.refl w.heap.size w)
  have H : ((day_To.f k a0).bind fun bt279 => (some (wrap64 ((wrap64 ((wrap64 (360 * bt279.1)) + (wrap64 (30 * bt279.2.1)))) + (mn bt279.2.2.1 30))))) = some r := h
  clear h
  replace H := Option.bind_eq_some_iff.mp H
  obtain ⟨⟨t279, t280, t281, t282⟩, A20, H⟩ := H
  replace H : (some (wrap64 ((wrap64 ((wrap64 (360 * t279)) + (wrap64 (30 * t280)))) + (mn t281 30)))) = some r := H
  have A2 := Aside0.mk A20
  clear A20
  obtain ⟨ji3, hji3⟩ : ∃ j_ : Int, (mn t281 30) = j_ := ⟨_, rfl⟩
  replace H : (some (wrap64 ((wrap64 ((wrap64 (360 * t279)) + (wrap64 (30 * t280)))) + (ji3)))) = some r := by first | (rw [hji3] at H; exact H) | (simp only [hji3] at H ⊢; exact H)
  (try rw [hji3] at A2)
  (try (have hji3h : ji3 ≤ 30 := by (rw [← hji3]; unfold mn; (repeat' split) <;> omega)))
  (try (have hji3g : ji3 ≤ 64 := by omega))
  have hji3_ : (if 30 < t281 then 30 else t281) = ji3 := hji3
  obtain rfl := Option.some.inj H
  go_enter Try.func68, Try.ntmps68
  go_wp2_with (first | ((with_reducible refine gate_callee (f := 69) rfl ?_); refine goesL_ (some 7) rfl rfl Try.func69 (by kernel_rfl) rfl #[.int .i64 a0] rfl (by (try simp only [List.map_toArray, List.map_cons, List.map_nil]); first | done | rfl | (simp only [List.length_drop, List.length_take]; rfl)) ?_; (with_reducible refine (day_To.calls k a0 t279 t280 t281 t282 _ A2.out).mono ?_); rintro e w4 ⟨rfl, hb⟩; refine ⟨_, rfl, ?_⟩; have n0_ := Aside0.mk (below_step (by repeat (first | (with_reducible first | exact HB.out | apply below_alloc | apply pw_below_drewN | apply below_drew1) | exact HB.out)) hb); clear HB; have HB := n0_; clear n0_; (try clear hb); (try clear hb2); (try clear hk); (try clear hi)) | ((with_reducible refine gate_dst (N := 3) rfl ?_); refine box_event ?hg (N := 3) ?hd (cs := #[.int .i64 0, .int .i64 0, .int .i64 0]) (t := 50) ?hr ?_; (case hd => rfl); (case hg => rfl); (case hr => first | (go_simp; done) | (go_simp; rfl)); intro gb283 hg w5 hbox hb; have n0_ := Aside0.mk (below_step (by repeat (first | (with_reducible first | exact HB.out | apply below_alloc | apply pw_below_drewN | apply below_drew1) | exact HB.out)) hb); have n1_ := Aside0.mk (hbox); have n2_ := Aside0.mk ((by rw [hg]; exact (below_size (by repeat (first | (with_reducible first | exact HB.out | apply below_alloc | apply pw_below_drewN | apply below_drew1) | exact HB.out))) : w.heap.size ≤ gb283)); have n3_ := Aside0.mk ((by rw [hg]; exact (below_size (by repeat (first | (with_reducible first | exact HB.out | apply below_alloc | apply pw_below_drewN | apply below_drew1) | exact HB.out))) : w.heap.size ≤ gb283)); clear HB; have HB := n0_; have BK283 := n1_; have GW283 := n2_; have GE283 := n3_; clear n0_ n1_ n2_ n3_; clear hb hbox hg; have hcz6_0 : w5.cell? ⟨gb283, 0, none⟩ = some (.int .i64 0) := (blk_cell BK283.out 0).trans rfl; have hcz6_1 : w5.cell? ⟨gb283, 1, none⟩ = some (.int .i64 0) := (blk_cell BK283.out 1).trans rfl; have hcz6_2 : w5.cell? ⟨gb283, 2, none⟩ = some (.int .i64 0) := (blk_cell BK283.out 2).trans rfl; have hfz6_0 := blk_frozen BK283.out 0; have hfz6_1 := blk_frozen BK283.out 1; have hfz6_2 := blk_frozen BK283.out 2))
  go_ret
  exact ⟨by first | rfl | (simp [errW_none, errW_some] <;> rfl) | (simp only [← hji3]; first | rfl | (simp [errW_none, errW_some] <;> rfl)) | (simp [*, errW_none, errW_some] <;> rfl), by repeat (first | (with_reducible first | exact HB.out | apply below_alloc | apply pw_below_drewN | apply below_drew1 | refine below_set ?_ GE283.out) | exact HB.out)⟩

end Go.Proofs.Ytioicmialbimfaa.S
end

section
namespace Go.Proofs.Ytioicmialbimfaa.S
open Go.RowKit Go.Proofs.YtioicmialbimfaaW.PrintWords Go.Proofs.YtioicmialbimfaaW.PrintLast Go.Proofs.YtioicmialbimfaaW.PrintMore
attribute [local go_sem] max2_int min2_int max_two min_two max_three min_three max_four min_four   -- for this text's walks alone
attribute [local go_sem] Go.Proofs.Ytioicmialbimfaa.XWalk.cell2
set_option linter.unusedVariables false
set_option linter.unusedSimpArgs false

/-! ### count_flat: function 51 -/
def count_flat.f (k : Nat) (a0 : Int) (a1 : Int) : Option (Int) := (count_flat_1.f k a1).bind fun t284 => ((count_flat_1.f k a0).bind fun t285 => (some (wrap64 (t284 - t285))))
theorem count_flat.mono : ∀ a0 a1 k, LeO (count_flat.f k a0 a1) (count_flat.f (k + 1) a0 a1) := by
  intro a0 a1 k
  unfold count_flat.f
  repeat' first
      | (with_reducible exact count_flat_1.mono _ _)
      | (with_reducible exact LeO.refl _)
      | (with_reducible exact LeO.none _)
      | (with_reducible refine LeO.ite ?_ ?_)
      | (with_reducible refine LeO.bind ?_ (fun _ => ?_))
      | exact count_flat_1.mono _ _
      | exact LeO.none _
      | refine LeO.ite ?_ ?_
      | refine LeO.bind ?_ (fun _ => ?_)
set_option maxHeartbeats 8000000 in
set_option maxRecDepth 100000 in
theorem count_flat.calls (k : Nat) (a0 : Int) (a1 : Int) (r : Int) (w : World) (h : count_flat.f k a0 a1 = some r) :
    Calls Try.prog 51 #[.int .i64 a0, .int .i64 a1] w fun e w' => e = .returned (.int .i64 r) ∧ Below w.heap.size w w' := by
  have HB := Aside0.mk (Below.refl w.heap.size w)
  have H : ((count_flat_1.f k a1).bind fun t284 => ((count_flat_1.f k a0).bind fun t285 => (some (wrap64 (t284 - t285))))) = some r := h
  clear h
  replace H := Option.bind_eq_some_iff.mp H
  obtain ⟨t284, A30, H⟩ := H
  replace H : ((count_flat_1.f k a0).bind fun t285 => (some (wrap64 (t284 - t285)))) = some r := H
  have A3 := Aside0.mk A30
  clear A30
  replace H := Option.bind_eq_some_iff.mp H
  obtain ⟨t285, A40, H⟩ := H
  replace H : (some (wrap64 (t284 - t285))) = some r := H
  have A4 := Aside0.mk A40
  clear A40
  obtain rfl := Option.some.inj H
  go_enter Try.func51, Try.ntmps51
  go_wp2_with (first | (go_at_call 68; (with_reducible refine (count_flat_1.calls k a1 t284 _ A3.out).mono ?_); rintro e w5 ⟨rfl, hb⟩; have n0_ := Aside0.mk (below_step (by repeat (first | (with_reducible first | exact HB.out | apply below_alloc | apply pw_below_drewN | apply below_drew1) | exact HB.out)) hb); clear HB; have HB := n0_; clear n0_; (try clear hb); (try clear hb2); (try clear hk); (try clear hi)) | (go_at_call 68; (with_reducible refine (count_flat_1.calls k a0 t285 _ A4.out).mono ?_); rintro e w6 ⟨rfl, hb⟩; have n0_ := Aside0.mk (below_step (by repeat (first | (with_reducible first | exact HB.out | apply below_alloc | apply pw_below_drewN | apply below_drew1) | exact HB.out)) hb); clear HB; have HB := n0_; clear n0_; (try clear hb); (try clear hb2); (try clear hk); (try clear hi)))
  go_ret
  exact ⟨by first | rfl | (simp [errW_none, errW_some] <;> rfl) | (simp [*, errW_none, errW_some] <;> rfl), by repeat (first | (with_reducible first | exact HB.out | apply below_alloc | apply pw_below_drewN | apply below_drew1) | exact HB.out)⟩

end Go.Proofs.Ytioicmialbimfaa.S
end

section
namespace Go.Proofs.Ytioicmialbimfaa.S
open Go.RowKit Go.Proofs.YtioicmialbimfaaW.PrintWords Go.Proofs.YtioicmialbimfaaW.PrintLast Go.Proofs.YtioicmialbimfaaW.PrintMore
attribute [local go_sem] max2_int min2_int max_two min_two max_three min_three max_four min_four   -- for this text's walks alone
attribute [local go_sem] Go.Proofs.Ytioicmialbimfaa.XWalk.cell2
set_option linter.unusedVariables false
set_option linter.unusedSimpArgs false

/-! ### count_real: function 52 -/
def count_real.f (a0 : Int) (a1 : Int) : Option (Int) := some (wrap64 (a1 - a0))
set_option maxHeartbeats 8000000 in
set_option maxRecDepth 100000 in
theorem count_real.calls (a0 : Int) (a1 : Int) (r : Int) (w : World) (h : count_real.f a0 a1 = some r) :
    Calls Try.prog 52 #[.int .i64 a0, .int .i64 a1] w fun e w' => e = .returned (.int .i64 r) ∧ Drawn0 w w' := by
  have H : (some (wrap64 (a1 - a0))) = some r := h
  clear h
  obtain rfl := Option.some.inj H
  go_enter Try.func52, Try.ntmps52
  go_wp2
  go_ret
  exact ⟨by first | rfl | (simp; done) | (simp [*]; done), by repeat (first | exact Drawn0.refl _ | apply Drawn0.step)⟩

end Go.Proofs.Ytioicmialbimfaa.S
end

section
namespace Go.Proofs.Ytioicmialbimfaa.S
open Go.RowKit Go.Proofs.YtioicmialbimfaaW.PrintWords Go.Proofs.YtioicmialbimfaaW.PrintLast Go.Proofs.YtioicmialbimfaaW.PrintMore
attribute [local go_sem] max2_int min2_int max_two min_two max_three min_three max_four min_four   -- for this text's walks alone
attribute [local go_sem] Go.Proofs.Ytioicmialbimfaa.XWalk.cell2
set_option linter.unusedVariables false
set_option linter.unusedSimpArgs false

/-! ### count_Days: function 29 -/
def count_Days.f (k : Nat) (a0 a1 a2 : Int) : Option (Int × Int) :=
  if count_Basis.v a2 = 0 then some (0, 2) else if mn a0 a1 < 1 then some (0, 5) else if 3652059 < mx a0 a1 then some (0, 5) else
  if a2 = 1 then (count_flat.f k a0 a1).bind fun n => some (n, 0) else (count_real.f a0 a1).bind fun n => some (n, 0)
theorem count_Days.mono : ∀ a0 a1 a2 k, LeO (count_Days.f k a0 a1 a2) (count_Days.f (k + 1) a0 a1 a2) := by
  intro a0 a1 a2 k
  unfold count_Days.f
  exact LeO.ite (LeO.refl _) (LeO.ite (LeO.refl _) (LeO.ite (LeO.refl _) (LeO.ite (LeO.bind (count_flat.mono _ _ _) (fun _ => LeO.refl _)) (LeO.refl _))))
theorem count_Days.row (a : Int) : (count_Basis.v a = 0 ∧ count_find.fn a = .nilFunc) ∨ (count_Basis.v a ≠ 0 ∧ a = 1 ∧ count_find.fn a = .func (.func 51) #[] #[]) ∨ (count_Basis.v a ≠ 0 ∧ a ≠ 1 ∧ count_find.fn a = .func (.func 52) #[] #[]) := by
  unfold count_Basis.v count_find.fn
  by_cases h1 : a = 1
  · subst h1
    exact .inr (.inl ⟨by decide, rfl, rfl⟩)
  · by_cases h2 : a = 2 ∨ a = 3
    · refine .inr (.inr ⟨?_, h1, by rw [if_neg h1, if_pos h2]⟩)
      rcases h2 with rfl | rfl <;> decide
    · exact .inl ⟨by rw [if_neg (by omega), if_neg (by omega)], by rw [if_neg h1, if_neg h2]⟩
set_option maxHeartbeats 8000000 in
theorem count_Days.calls (k : Nat) (a0 a1 a2 r1 r2 : Int) (w : World) (h : count_Days.f k a0 a1 a2 = some (r1, r2)) : Calls Try.prog 29 #[.int .i64 a0, .int .i64 a1, .int .i64 a2] w fun e w' => e = .returned (.tuple #[.int .i64 r1, .int .i64 r2]) ∧ Below w.heap.size w w' := by
  unfold count_Days.f at h
  obtain ⟨g, hg⟩ : ∃ g, g = w.heap.size := ⟨_, rfl⟩
  have WY : Aside0 (Calls Try.prog 43 #[] w fun e w' => e = .returned (.slice (some ⟨g, 0, none⟩) 4 4) ∧ w'.heap[g]? = some (.cells count_ways.cells 66 (0, 0)) ∧ Below w.heap.size w w') := ⟨by rw [hg]; exact count_ways.calls w⟩
  have FD : Aside0 (∀ W : World, W.heap[g]? = some (.cells count_ways.cells 66 (0, 0)) → Calls Try.prog 42 #[.slice (some ⟨g, 0, none⟩) 4 4, .int .i64 a2] W fun e w' => e = .returned (.agg #[.int .i64 (count_Basis.v a2), count_find.fn a2]) ∧ Below W.heap.size W w') := ⟨fun W h => count_find.calls a2 g W h⟩
  clear hg
  rcases count_Days.row a2 with ⟨c1, u⟩ | ⟨c1, ca, u⟩ | ⟨c1, ca, u⟩
  · rw [if_pos c1] at h
    obtain ⟨rfl, rfl⟩ := Prod.mk.inj (Option.some.inj h)
    rw [c1, u] at FD
    clear c1 h u
    go_enter Try.func29, Try.ntmps29
    go_wp2_with (first | (go_at_call 43; (with_reducible refine WY.out.mono ?_); rintro e w1 ⟨rfl, hg1, h1⟩; replace hg1 := Aside0.mk hg1) | (go_at_call 42; (with_reducible refine (FD.out _ hg1.out).mono ?_); rintro e w2 ⟨rfl, h2⟩))
    go_ret2
    exact ⟨rfl, below_alloc (below_then h1 h1.size h2) _⟩
  · rw [if_neg c1] at h
    rw [u] at FD
    obtain ⟨v, hv⟩ : ∃ v, v = count_Basis.v a2 := ⟨_, rfl⟩
    rw [← hv] at FD c1
    have q1 : (v == 0) = false := beq_eq_false_iff_ne.mpr c1
    clear hv c1 u
    by_cases c2 : mn a0 a1 < 1
    · rw [if_pos c2] at h
      obtain ⟨rfl, rfl⟩ := Prod.mk.inj (Option.some.inj h)
      clear h ca
      rcases (show a0 < a1 ∧ a0 < 1 ∨ (a0 = a1 ∧ a0 < 1) ∨ a1 < a0 ∧ a1 < 1 by unfold mn at c2; omega) with ⟨d1, d2⟩ | ⟨d1, d2⟩ | ⟨d1, d2⟩
      all_goals
        clear c2
        try subst d1
        go_enter Try.func29, Try.ntmps29
        go_wp2_with (first | (go_at_call 43; (with_reducible refine WY.out.mono ?_); rintro e w1 ⟨rfl, hg1, h1⟩; replace hg1 := Aside0.mk hg1) | (go_at_call 42; (with_reducible refine (FD.out _ hg1.out).mono ?_); rintro e w2 ⟨rfl, h2⟩))
        go_ret2
        exact ⟨rfl, below_alloc (below_then h1 h1.size h2) _⟩
    · rw [if_neg c2] at h
      by_cases c3 : 3652059 < mx a0 a1
      · rw [if_pos c3] at h
        obtain ⟨rfl, rfl⟩ := Prod.mk.inj (Option.some.inj h)
        clear h ca
        rcases (show (a0 < a1 ∧ 1 ≤ a0 ∧ 3652059 < a1) ∨ (a0 = a1 ∧ 1 ≤ a0 ∧ 3652059 < a0) ∨ a1 < a0 ∧ 1 ≤ a1 ∧ 3652059 < a0 by unfold mn at c2; unfold mx at c3; omega) with ⟨d1, d2, d3⟩ | ⟨d1, d2, d3⟩ | ⟨d1, d2, d3⟩
        all_goals
          clear c2 c3
          try subst d1
          go_enter Try.func29, Try.ntmps29
          go_wp2_with (first | (go_at_call 43; (with_reducible refine WY.out.mono ?_); rintro e w1 ⟨rfl, hg1, h1⟩; replace hg1 := Aside0.mk hg1) | (go_at_call 42; (with_reducible refine (FD.out _ hg1.out).mono ?_); rintro e w2 ⟨rfl, h2⟩))
          go_ret2
          exact ⟨rfl, below_alloc (below_then h1 h1.size h2) _⟩
      · rw [if_neg c3, if_pos ca] at h
        obtain ⟨n, hn, h⟩ := Option.bind_eq_some_iff.mp h
        obtain ⟨rfl, rfl⟩ := Prod.mk.inj (Option.some.inj h)
        have HN := Aside0.mk hn
        clear h ca hn
        rcases (show (a0 < a1 ∧ 1 ≤ a0 ∧ a1 ≤ 3652059) ∨ (a0 = a1 ∧ 1 ≤ a0 ∧ a0 ≤ 3652059) ∨ a1 < a0 ∧ 1 ≤ a1 ∧ a0 ≤ 3652059 by unfold mn at c2; unfold mx at c3; omega) with ⟨d1, d2, d3⟩ | ⟨d1, d2, d3⟩ | ⟨d1, d2, d3⟩
        all_goals
          clear c2 c3
          try subst d1
          go_enter Try.func29, Try.ntmps29
          go_wp2_with (first | (go_at_call 43; (with_reducible refine WY.out.mono ?_); rintro e w1 ⟨rfl, hg1, h1⟩; replace hg1 := Aside0.mk hg1) | (go_at_call 42; (with_reducible refine (FD.out _ hg1.out).mono ?_); rintro e w2 ⟨rfl, h2⟩) | (go_at_call 51; (with_reducible refine (count_flat.calls k _ _ n _ HN.out).mono ?_); rintro e w3 ⟨rfl, h3⟩))
          go_ret2
          exact ⟨rfl, below_then (below_alloc (below_then h1 h1.size h2) _) (below_alloc (below_then h1 h1.size h2) _).size h3⟩
  · rw [if_neg c1] at h
    rw [u] at FD
    obtain ⟨v, hv⟩ : ∃ v, v = count_Basis.v a2 := ⟨_, rfl⟩
    rw [← hv] at FD c1
    have q1 : (v == 0) = false := beq_eq_false_iff_ne.mpr c1
    clear hv c1 u
    by_cases c2 : mn a0 a1 < 1
    · rw [if_pos c2] at h
      obtain ⟨rfl, rfl⟩ := Prod.mk.inj (Option.some.inj h)
      clear h ca
      rcases (show a0 < a1 ∧ a0 < 1 ∨ (a0 = a1 ∧ a0 < 1) ∨ a1 < a0 ∧ a1 < 1 by unfold mn at c2; omega) with ⟨d1, d2⟩ | ⟨d1, d2⟩ | ⟨d1, d2⟩
      all_goals
        clear c2
        try subst d1
        go_enter Try.func29, Try.ntmps29
        go_wp2_with (first | (go_at_call 43; (with_reducible refine WY.out.mono ?_); rintro e w1 ⟨rfl, hg1, h1⟩; replace hg1 := Aside0.mk hg1) | (go_at_call 42; (with_reducible refine (FD.out _ hg1.out).mono ?_); rintro e w2 ⟨rfl, h2⟩))
        go_ret2
        exact ⟨rfl, below_alloc (below_then h1 h1.size h2) _⟩
    · rw [if_neg c2] at h
      by_cases c3 : 3652059 < mx a0 a1
      · rw [if_pos c3] at h
        obtain ⟨rfl, rfl⟩ := Prod.mk.inj (Option.some.inj h)
        clear h ca
        rcases (show (a0 < a1 ∧ 1 ≤ a0 ∧ 3652059 < a1) ∨ (a0 = a1 ∧ 1 ≤ a0 ∧ 3652059 < a0) ∨ a1 < a0 ∧ 1 ≤ a1 ∧ 3652059 < a0 by unfold mn at c2; unfold mx at c3; omega) with ⟨d1, d2, d3⟩ | ⟨d1, d2, d3⟩ | ⟨d1, d2, d3⟩
        all_goals
          clear c2 c3
          try subst d1
          go_enter Try.func29, Try.ntmps29
          go_wp2_with (first | (go_at_call 43; (with_reducible refine WY.out.mono ?_); rintro e w1 ⟨rfl, hg1, h1⟩; replace hg1 := Aside0.mk hg1) | (go_at_call 42; (with_reducible refine (FD.out _ hg1.out).mono ?_); rintro e w2 ⟨rfl, h2⟩))
          go_ret2
          exact ⟨rfl, below_alloc (below_then h1 h1.size h2) _⟩
      · rw [if_neg c3, if_neg ca] at h
        obtain ⟨n, hn, h⟩ := Option.bind_eq_some_iff.mp h
        obtain ⟨rfl, rfl⟩ := Prod.mk.inj (Option.some.inj h)
        have HN := Aside0.mk hn
        clear h ca hn
        rcases (show (a0 < a1 ∧ 1 ≤ a0 ∧ a1 ≤ 3652059) ∨ (a0 = a1 ∧ 1 ≤ a0 ∧ a0 ≤ 3652059) ∨ a1 < a0 ∧ 1 ≤ a1 ∧ a0 ≤ 3652059 by unfold mn at c2; unfold mx at c3; omega) with ⟨d1, d2, d3⟩ | ⟨d1, d2, d3⟩ | ⟨d1, d2, d3⟩
        all_goals
          clear c2 c3
          try subst d1
          go_enter Try.func29, Try.ntmps29
          go_wp2_with (first | (go_at_call 43; (with_reducible refine WY.out.mono ?_); rintro e w1 ⟨rfl, hg1, h1⟩; replace hg1 := Aside0.mk hg1) | (go_at_call 42; (with_reducible refine (FD.out _ hg1.out).mono ?_); rintro e w2 ⟨rfl, h2⟩) | (go_at_call 52; (with_reducible refine (count_real.calls _ _ n _ HN.out).mono ?_); rintro e w3 ⟨rfl, h3⟩))
          go_ret2
          exact ⟨rfl, below_then (below_alloc (below_then h1 h1.size h2) _) (below_alloc (below_then h1 h1.size h2) _).size h3.below⟩


end Go.Proofs.Ytioicmialbimfaa.S
end

section
namespace Go.Proofs.Ytioicmialbimfaa.S
open Go.RowKit Go.Proofs.YtioicmialbimfaaW.PrintWords Go.Proofs.YtioicmialbimfaaW.PrintLast Go.Proofs.YtioicmialbimfaaW.PrintMore
attribute [local go_sem] max2_int min2_int max_two min_two max_three min_three max_four min_four   -- for this text's walks alone
attribute [local go_sem] Go.Proofs.Ytioicmialbimfaa.XWalk.cell2
set_option linter.unusedVariables false
set_option linter.unusedSimpArgs false

/-! ### wide_Mul: function 48 -/
def wide_Mul.f (a0 : Int) (a1 : Int) : Option (Int × Int) := (math_bits_Mul64.f (IntKind.u64.wrap (a0)) (IntKind.u64.wrap (a1))).bind fun bt118 => (some (wrap64 ((wrap64 ((wrap64 (bt118.1)) - (Go.bits .and .i64 (a0 / 9223372036854775808) a1))) - (Go.bits .and .i64 (a1 / 9223372036854775808) a0)), bt118.2))
set_option maxHeartbeats 8000000 in
set_option maxRecDepth 100000 in
theorem wide_Mul.calls (a0 : Int) (a1 : Int) (r1 : Int) (r2 : Int) (w : World) (h : wide_Mul.f a0 a1 = some (r1, r2)) :
    Calls Try.prog 48 #[.int .i64 a0, .int .i64 a1] w fun e w' => e = .returned (.agg #[.int .i64 r1, .int .u64 r2]) ∧ Below w.heap.size w w' := by
  have hu79 := Try.underlying79
  have HB := Aside0.mk (Below.refl w.heap.size w)
  have H : ((math_bits_Mul64.f (IntKind.u64.wrap (a0)) (IntKind.u64.wrap (a1))).bind fun bt118 => (some (wrap64 ((wrap64 ((wrap64 (bt118.1)) - (Go.bits .and .i64 (a0 / 9223372036854775808) a1))) - (Go.bits .and .i64 (a1 / 9223372036854775808) a0)), bt118.2))) = some (r1, r2) := h
  clear h
  replace H := Option.bind_eq_some_iff.mp H
  obtain ⟨⟨t118, t119⟩, A30, H⟩ := H
  replace H : (some (wrap64 ((wrap64 ((wrap64 (t118)) - (Go.bits .and .i64 (a0 / 9223372036854775808) a1))) - (Go.bits .and .i64 (a1 / 9223372036854775808) a0)), t119)) = some (r1, r2) := H
  have A3 := Aside0.mk A30
  clear A30
  simp only [Option.some.injEq, Prod.mk.injEq] at H
  obtain ⟨rfl, rfl⟩ := H
  go_enter Try.func48, Try.ntmps48
  go_wp2_with (first | ((with_reducible refine gate_dst (N := 4) rfl ?_); refine box_event ?hg (N := 4) ?hd (cs := #[.int .i64 0, .int .u64 0]) (t := 79) ?hr ?_; (case hd => rfl); (case hg => rfl); (case hr => first | (go_simp; done) | (go_simp; rfl)); intro gb117 hg w4 hbox hb; have n0_ := Aside0.mk (below_step (by repeat (first | (with_reducible first | exact HB.out | apply below_alloc | apply pw_below_drewN | apply below_drew1) | exact HB.out)) hb); have n1_ := Aside0.mk (hbox); have n2_ := Aside0.mk ((by rw [hg]; exact (below_size (by repeat (first | (with_reducible first | exact HB.out | apply below_alloc | apply pw_below_drewN | apply below_drew1) | exact HB.out))) : w.heap.size ≤ gb117)); have n3_ := Aside0.mk ((by rw [hg]; exact (below_size (by repeat (first | (with_reducible first | exact HB.out | apply below_alloc | apply pw_below_drewN | apply below_drew1) | exact HB.out))) : w.heap.size ≤ gb117)); clear HB; have HB := n0_; have BK117 := n1_; have GW117 := n2_; have GE117 := n3_; clear n0_ n1_ n2_ n3_; clear hb hbox hg) | ((with_reducible refine gate_callee (f := 61) rfl ?_); refine goesL_ (some 13) rfl rfl Try.func61 (by kernel_rfl) rfl #[.int .u64 (IntKind.u64.wrap (a0)), .int .u64 (IntKind.u64.wrap (a1))] rfl (by (try simp only [List.map_toArray, List.map_cons, List.map_nil]); first | done | rfl | (simp only [List.length_drop, List.length_take]; rfl)) ?_; (with_reducible refine (math_bits_Mul64.calls (IntKind.u64.wrap (a0)) (IntKind.u64.wrap (a1)) t118 t119 _ A3.out).mono ?_); rintro e w' ⟨rfl, ⟨nd, rfl⟩⟩; refine ⟨_, rfl, ?_⟩; (try (rw [drewN_self w4]; generalize hq_ : World.drewN w4 _ = w4; have n0_ : Aside0 (w4.heap[gb117]? = some (.cells #[.int .i64 0, .int .u64 0] 79 (0, 0))) := ⟨by rw [← hq_]; exact (by (with_reducible repeat (first | refine blk_drewN ?_ _ | refine blk_drew ?_ | refine blk_alloc ?_ _)); exact BK117.out)⟩; have n1_ : Aside0 (Below w.heap.size w w4) := ⟨by rw [← hq_]; exact (by repeat (first | (with_reducible first | exact HB.out | apply below_alloc | apply pw_below_drewN | apply below_drew1 | refine below_set ?_ GE117.out) | exact HB.out))⟩; clear BK117 HB hq_; have BK117 := n0_; have HB := n1_; clear n0_ n1_)); (try (have hcz5_0 : w4.cell? ⟨gb117, 0, none⟩ = some (.int .i64 0) := (blk_cell BK117.out 0).trans rfl; have hfz5_0 := blk_frozen BK117.out 0; have hcz5_1 : w4.cell? ⟨gb117, 1, none⟩ = some (.int .u64 0) := (blk_cell BK117.out 1).trans rfl; have hfz5_1 := blk_frozen BK117.out 1))))
  refine bodyPost_ret (results_cell_row rfl _ _ gb117 79 #[.int .i64 (wrap64 ((wrap64 ((wrap64 (t118)) - (Go.bits .and .i64 (a0 / 9223372036854775808) a1))) - (Go.bits .and .i64 (a1 / 9223372036854775808) a0))), .int .u64 t119] (0, 0) _ rfl (by (with_reducible repeat (first | refine blk_drewN ?_ _ | refine blk_drew ?_ | refine blk_alloc ?_ _)); refine blk_put (cs := #[.int .i64 (wrap64 ((wrap64 ((wrap64 (t118)) - (Go.bits .and .i64 (a0 / 9223372036854775808) a1))) - (Go.bits .and .i64 (a1 / 9223372036854775808) a0))), .int .u64 0]) ?_ 1 _ rfl; (with_reducible repeat (first | refine blk_drewN ?_ _ | refine blk_drew ?_ | refine blk_alloc ?_ _)); refine blk_put (cs := #[.int .i64 0, .int .u64 0]) ?_ 0 _ rfl; (with_reducible repeat (first | refine blk_drewN ?_ _ | refine blk_drew ?_ | refine blk_alloc ?_ _)); exact BK117.out) Try.underlying79 rfl (by kernel_rfl)) rfl ?_
  exact ⟨by first | rfl | (simp [errW_none, errW_some] <;> rfl) | (simp [*, errW_none, errW_some] <;> rfl), by repeat (first | (with_reducible first | exact HB.out | apply below_alloc | apply pw_below_drewN | apply below_drew1 | refine below_set ?_ GE117.out) | exact HB.out)⟩

end Go.Proofs.Ytioicmialbimfaa.S
end

section
namespace Go.Proofs.Ytioicmialbimfaa.S
open Go.RowKit Go.Proofs.YtioicmialbimfaaW.PrintWords Go.Proofs.YtioicmialbimfaaW.PrintLast Go.Proofs.YtioicmialbimfaaW.PrintMore
attribute [local go_sem] max2_int min2_int max_two min_two max_three min_three max_four min_four   -- for this text's walks alone
attribute [local go_sem] Go.Proofs.Ytioicmialbimfaa.XWalk.cell2
set_option linter.unusedVariables false
set_option linter.unusedSimpArgs false

/-! ### day_Leap: function 55 -/
def day_Leap.f (a0 : Int) : Option (Bool) := if (Int.tmod a0 4) = 0 then (if (Int.tmod a0 100) = 0 then (some ((Int.tmod a0 400) == 0)) else (some true)) else (some false)
set_option maxHeartbeats 8000000 in
set_option maxRecDepth 100000 in
theorem day_Leap.calls (a0 : Int) (r : Bool) (w : World) (h : day_Leap.f a0 = some r) :
    Calls Try.prog 55 #[.int .i64 a0] w fun e w' => e = .returned (.bool r) ∧ Drawn0 w w' := by
  have H : (if (Int.tmod a0 4) = 0 then (if (Int.tmod a0 100) = 0 then (some ((Int.tmod a0 400) == 0)) else (some true)) else (some false)) = some r := h
  clear h
  by_cases c2 : (Int.tmod a0 4) = 0
  · rw [if_pos c2] at H
    have c2b0 : ((Int.tmod a0 4) == 0) = true := beq_iff_eq.mpr c2
    have c2b1 : ((Int.tmod a0 4) != 0) = false := bne_eq_false_iff_eq.mpr c2
    clear c2
    by_cases c3 : (Int.tmod a0 100) = 0
    · rw [if_pos c3] at H
      have c3b0 : ((Int.tmod a0 100) == 0) = true := beq_iff_eq.mpr c3
      have c3b1 : ((Int.tmod a0 100) != 0) = false := bne_eq_false_iff_eq.mpr c3
      clear c3
      obtain rfl := Option.some.inj H
      go_enter Try.func55, Try.ntmps55
      go_wp2
      go_ret
      exact ⟨by first | rfl | (simp; done) | (simp [*]; done), by repeat (first | exact Drawn0.refl _ | apply Drawn0.step)⟩
    · rw [if_neg c3] at H
      have c3b0 : ((Int.tmod a0 100) == 0) = false := beq_eq_false_iff_ne.mpr c3
      have c3b1 : ((Int.tmod a0 100) != 0) = true := bne_iff_ne.mpr c3
      obtain rfl := Option.some.inj H
      go_enter Try.func55, Try.ntmps55
      go_wp2
      go_ret
      exact ⟨by first | rfl | (simp; done) | (simp [*]; done), by repeat (first | exact Drawn0.refl _ | apply Drawn0.step)⟩
  · rw [if_neg c2] at H
    have c2b0 : ((Int.tmod a0 4) == 0) = false := beq_eq_false_iff_ne.mpr c2
    have c2b1 : ((Int.tmod a0 4) != 0) = true := bne_iff_ne.mpr c2
    obtain rfl := Option.some.inj H
    go_enter Try.func55, Try.ntmps55
    go_wp2
    go_ret
    exact ⟨by first | rfl | (simp; done) | (simp [*]; done), by repeat (first | exact Drawn0.refl _ | apply Drawn0.step)⟩

end Go.Proofs.Ytioicmialbimfaa.S
end

section
namespace Go.Proofs.Ytioicmialbimfaa.S
open Go.RowKit Go.Proofs.YtioicmialbimfaaW.PrintWords Go.Proofs.YtioicmialbimfaaW.PrintLast Go.Proofs.YtioicmialbimfaaW.PrintMore
attribute [local go_sem] max2_int min2_int max_two min_two max_three min_three max_four min_four   -- for this text's walks alone
attribute [local go_sem] Go.Proofs.Ytioicmialbimfaa.XWalk.cell2
set_option linter.unusedVariables false
set_option linter.unusedSimpArgs false

/-! ### day_Last: function 45 -/
mutual
def day_Last.j0 : Nat → Int → Int → Bool → Option (Int)
  | 0, _, _, _ => none
  | k + 1, x0, x1, x18 => if x18 = true then (some 0) else (if x1 = 4 then (day_Last.j1 k x0 x1 (x1 == 4)) else (if x1 = 6 then (day_Last.j1 k x0 x1 (x1 == 6)) else (if x1 = 9 then (day_Last.j1 k x0 x1 (x1 == 9)) else (day_Last.j1 k x0 x1 (x1 == 11)))))
def day_Last.j1 : Nat → Int → Int → Bool → Option (Int)
  | 0, _, _, _ => none
  | k + 1, x0, x19, x20 => if x20 = true then (some 30) else (if x19 = 2 then ((day_Leap.f x0).bind fun t294 => (if t294 = true then (some 29) else (some 28))) else (some 31))
end
def day_Last.f (k : Nat) (a0 : Int) (a1 : Int) : Option (Int) := if a0 < 1 then (day_Last.j0 k a0 a1 true) else (if a0 > 9999 then (day_Last.j0 k a0 a1 true) else (if a1 < 1 then (day_Last.j0 k a0 a1 true) else (day_Last.j0 k a0 a1 (decide (a1 > 12)))))
theorem day_Last.mono_l : ∀ k, (∀ y0 y1 y2, LeO (day_Last.j0 k y0 y1 y2) (day_Last.j0 (k + 1) y0 y1 y2)) ∧ (∀ y0 y1 y2, LeO (day_Last.j1 k y0 y1 y2) (day_Last.j1 (k + 1) y0 y1 y2))
  | 0 => ⟨fun _ _ _ r h => by simp [day_Last.j0] at h, fun _ _ _ r h => by simp [day_Last.j1] at h⟩
  | k + 1 => by
    obtain ⟨ih0, ih1⟩ := day_Last.mono_l k
    refine ⟨?_, ?_⟩
    · intro y0 y1 y2
      unfold day_Last.j0
      repeat' first
      | (with_reducible exact ih0 _ _ _)
      | (with_reducible exact ih1 _ _ _)
      | (with_reducible exact LeO.refl _)
      | (with_reducible exact LeO.none _)
      | (with_reducible refine LeO.ite ?_ ?_)
      | (with_reducible refine LeO.bind ?_ (fun _ => ?_))
      | exact ih0 _ _ _
      | exact ih1 _ _ _
      | exact LeO.none _
      | refine LeO.ite ?_ ?_
      | refine LeO.bind ?_ (fun _ => ?_)
    · intro y0 y1 y2
      unfold day_Last.j1
      repeat' first
      | (with_reducible exact ih0 _ _ _)
      | (with_reducible exact ih1 _ _ _)
      | (with_reducible exact LeO.refl _)
      | (with_reducible exact LeO.none _)
      | (with_reducible refine LeO.ite ?_ ?_)
      | (with_reducible refine LeO.bind ?_ (fun _ => ?_))
      | exact ih0 _ _ _
      | exact ih1 _ _ _
      | exact LeO.none _
      | refine LeO.ite ?_ ?_
      | refine LeO.bind ?_ (fun _ => ?_)
theorem day_Last.mono : ∀ a0 a1 k, LeO (day_Last.f k a0 a1) (day_Last.f (k + 1) a0 a1) := by
  intro a0 a1 k
  obtain ⟨ih0, ih1⟩ := day_Last.mono_l k
  unfold day_Last.f
  repeat' first
      | (with_reducible exact ih0 _ _ _)
      | (with_reducible exact ih1 _ _ _)
      | (with_reducible exact LeO.refl _)
      | (with_reducible exact LeO.none _)
      | (with_reducible refine LeO.ite ?_ ?_)
      | (with_reducible refine LeO.bind ?_ (fun _ => ?_))
      | exact ih0 _ _ _
      | exact ih1 _ _ _
      | exact LeO.none _
      | refine LeO.ite ?_ ?_
      | refine LeO.bind ?_ (fun _ => ?_)
set_option maxHeartbeats 8000000 in
set_option maxRecDepth 100000 in
theorem day_Last.calls (k : Nat) (a0 : Int) (a1 : Int) (r : Int) (w : World) (h : day_Last.f k a0 a1 = some r) :
    Calls Try.prog 45 #[.int .i64 a0, .int .i64 a1] w fun e w' => e = .returned (.int .i64 r) ∧ Drawn0 w w' := by
  have H : (if a0 < 1 then (day_Last.j0 k a0 a1 true) else (if a0 > 9999 then (day_Last.j0 k a0 a1 true) else (if a1 < 1 then (day_Last.j0 k a0 a1 true) else (day_Last.j0 k a0 a1 (decide (a1 > 12)))))) = some r := h
  clear h
  have HC3 := Aside0.mk H
  clear H
  go_enter Try.func45, Try.ntmps45
  go_upto_region 1 with (fail)
  go_cut [18] (fun v18 wc => ∃ (kq : Nat) (x18_2 : Bool), v18 = .bool x18_2 ∧ Aside0 (day_Last.j0 kq a0 a1 x18_2 = some r) ∧ Aside0 (kq ≤ k) ∧ Drawn0 w wc)
  case first =>
    have H := HC3.out
    clear HC3
    by_cases c4 : a0 < 1
    · rw [if_pos c4] at H
      have c4b0 : decide (a0 < 1) = true := decide_eq_true c4
      clear c4
      (first | rw [c4b0] | (simp only [i64_w, i32_w]; rw [c4b0]) | skip)
      have H' := Aside0.mk H
      clear H
      go_wp2
      go_meet
      case rel => exact ⟨_, (true), (by first | rfl | (simp; done) | (simp [*]; done)), H', ⟨by first | omega | exact Nat.le_refl _⟩, by repeat (first | exact Drawn0.refl _ | apply Drawn0.step)⟩
    · rw [if_neg c4] at H
      have c4b0 : decide (a0 < 1) = false := decide_eq_false c4
      clear c4
      (first | rw [c4b0] | (simp only [i64_w, i32_w]; rw [c4b0]) | skip)
      by_cases c5 : a0 > 9999
      · rw [if_pos c5] at H
        have c5b0 : decide (9999 < a0) = true := decide_eq_true c5
        clear c5
        have H' := Aside0.mk H
        clear H
        go_wp2
        go_meet
        case rel => exact ⟨_, (true), (by first | rfl | (simp; done) | (simp [*]; done)), H', ⟨by first | omega | exact Nat.le_refl _⟩, by repeat (first | exact Drawn0.refl _ | apply Drawn0.step)⟩
      · rw [if_neg c5] at H
        have c5b0 : decide (9999 < a0) = false := decide_eq_false c5
        clear c5
        by_cases c6 : a1 < 1
        · rw [if_pos c6] at H
          have c6b0 : decide (a1 < 1) = true := decide_eq_true c6
          clear c6
          have H' := Aside0.mk H
          clear H
          go_wp2
          go_meet
          case rel => exact ⟨_, (true), (by first | rfl | (simp; done) | (simp [*]; done)), H', ⟨by first | omega | exact Nat.le_refl _⟩, by repeat (first | exact Drawn0.refl _ | apply Drawn0.step)⟩
        · rw [if_neg c6] at H
          have c6b0 : decide (a1 < 1) = false := decide_eq_false c6
          clear c6
          have H' := Aside0.mk H
          clear H
          go_wp2
          go_meet
          case rel => exact ⟨_, (decide (a1 > 12)), (by first | rfl | (simp; done) | (simp [*]; done)), H', ⟨by first | omega | exact Nat.le_refl _⟩, by repeat (first | exact Drawn0.refl _ | apply Drawn0.step)⟩
  case rest =>
    clear HC3
    try clear p2
    try clear c4
    try clear c4b0
    try clear c5
    try clear c5b0
    try clear c6
    try clear c6b0
    obtain ⟨kq, x18_2, rfl, HA, HJ2, ⟨mc2, rfl⟩⟩ := hcut
    cases kq with
    | zero => exact absurd HA.out (by simp [day_Last.j0])
    | succ kj2 =>
      have H := HA.out
      clear HA
      simp only [day_Last.j0] at H
      by_cases c7 : x18_2 = true
      · subst c7
        have H1 : (some 0) = some r := by rw [if_pos rfl] at H; exact H
        clear H
        have H := H1
        clear H1
        obtain rfl := Option.some.inj H
        go_wp2
        go_ret
        exact ⟨by first | rfl | (simp; done) | (simp [*]; done), by repeat (first | exact Drawn0.refl _ | apply Drawn0.step)⟩
      · replace c7 := Bool.eq_false_iff.mpr c7
        subst c7
        have H1 : (if a1 = 4 then (day_Last.j1 kj2 a0 a1 (a1 == 4)) else (if a1 = 6 then (day_Last.j1 kj2 a0 a1 (a1 == 6)) else (if a1 = 9 then (day_Last.j1 kj2 a0 a1 (a1 == 9)) else (day_Last.j1 kj2 a0 a1 (a1 == 11))))) = some r := by rw [if_neg (show ¬ (false = true) by decide)] at H; exact H
        clear H
        have H := H1
        clear H1
        have HC8 := Aside0.mk H
        clear H
        go_upto_if 20 with (fail)
        go_cut [20] (fun v20 wc => ∃ (kq : Nat) (x20_7 : Bool), v20 = .bool x20_7 ∧ Aside0 (day_Last.j1 kq a0 a1 x20_7 = some r) ∧ Aside0 (kq ≤ kj2) ∧ Drawn0 w wc)
        case first =>
          have H := HC8.out
          clear HC8
          by_cases c9 : a1 = 4
          · rw [if_pos c9] at H
            have c9b0 : (a1 == 4) = true := beq_iff_eq.mpr c9
            have c9b1 : (a1 != 4) = false := bne_eq_false_iff_eq.mpr c9
            clear c9
            (first | rw [c9b0] | (simp only [i64_w, i32_w]; rw [c9b0]) | skip)
            have H' := Aside0.mk H
            clear H
            go_wp2
            go_meet
            case rel => exact ⟨_, ((a1 == 4)), (by first | rfl | (simp; done) | (simp [*]; done)), H', ⟨by have := HJ2.out; first | omega | exact Nat.le_refl _⟩, by repeat (first | exact Drawn0.refl _ | apply Drawn0.step)⟩
          · rw [if_neg c9] at H
            have c9b0 : (a1 == 4) = false := beq_eq_false_iff_ne.mpr c9
            have c9b1 : (a1 != 4) = true := bne_iff_ne.mpr c9
            (first | rw [c9b0] | (simp only [i64_w, i32_w]; rw [c9b0]) | skip)
            by_cases c10 : a1 = 6
            · rw [if_pos c10] at H
              have c10b0 : (a1 == 6) = true := beq_iff_eq.mpr c10
              have c10b1 : (a1 != 6) = false := bne_eq_false_iff_eq.mpr c10
              clear c10
              have H' := Aside0.mk H
              clear H
              go_wp2
              go_meet
              case rel => exact ⟨_, ((a1 == 6)), (by first | rfl | (simp; done) | (simp [*]; done)), H', ⟨by have := HJ2.out; first | omega | exact Nat.le_refl _⟩, by repeat (first | exact Drawn0.refl _ | apply Drawn0.step)⟩
            · rw [if_neg c10] at H
              have c10b0 : (a1 == 6) = false := beq_eq_false_iff_ne.mpr c10
              have c10b1 : (a1 != 6) = true := bne_iff_ne.mpr c10
              by_cases c11 : a1 = 9
              · rw [if_pos c11] at H
                have c11b0 : (a1 == 9) = true := beq_iff_eq.mpr c11
                have c11b1 : (a1 != 9) = false := bne_eq_false_iff_eq.mpr c11
                clear c11
                have H' := Aside0.mk H
                clear H
                go_wp2
                go_meet
                case rel => exact ⟨_, ((a1 == 9)), (by first | rfl | (simp; done) | (simp [*]; done)), H', ⟨by have := HJ2.out; first | omega | exact Nat.le_refl _⟩, by repeat (first | exact Drawn0.refl _ | apply Drawn0.step)⟩
              · rw [if_neg c11] at H
                have c11b0 : (a1 == 9) = false := beq_eq_false_iff_ne.mpr c11
                have c11b1 : (a1 != 9) = true := bne_iff_ne.mpr c11
                have H' := Aside0.mk H
                clear H
                go_wp2
                go_meet
                case rel => exact ⟨_, ((a1 == 11)), (by first | rfl | (simp; done) | (simp [*]; done)), H', ⟨by have := HJ2.out; first | omega | exact Nat.le_refl _⟩, by repeat (first | exact Drawn0.refl _ | apply Drawn0.step)⟩
        case rest =>
          clear HC8
          try clear c1
          try clear c2
          try clear p2
          try clear c4
          try clear c4b0
          try clear c5
          try clear c5b0
          try clear c6
          try clear c6b0
          try clear c7
          try clear c9
          try clear c9b0
          try clear c9b1
          try clear c10
          try clear c10b0
          try clear c10b1
          try clear c11
          try clear c11b0
          try clear c11b1
          try clear p2
          obtain ⟨kq, x20_7, rfl, HA, HJ7, ⟨mc7, rfl⟩⟩ := hcut
          cases kq with
          | zero => exact absurd HA.out (by simp [day_Last.j1])
          | succ kj7 =>
            have H := HA.out
            clear HA
            simp only [day_Last.j1] at H
            by_cases c12 : x20_7 = true
            · subst c12
              have H1 : (some 30) = some r := by rw [if_pos rfl] at H; exact H
              clear H
              have H := H1
              clear H1
              obtain rfl := Option.some.inj H
              go_wp2
              go_ret
              exact ⟨by first | rfl | (simp; done) | (simp [*]; done), by repeat (first | exact Drawn0.refl _ | apply Drawn0.step)⟩
            · replace c12 := Bool.eq_false_iff.mpr c12
              subst c12
              have H1 : (if a1 = 2 then ((day_Leap.f a0).bind fun t294 => (if t294 = true then (some 29) else (some 28))) else (some 31)) = some r := by rw [if_neg (show ¬ (false = true) by decide)] at H; exact H
              clear H
              have H := H1
              clear H1
              by_cases c13 : a1 = 2
              · rw [if_pos c13] at H
                have c13b0 : (a1 == 2) = true := beq_iff_eq.mpr c13
                have c13b1 : (a1 != 2) = false := bne_eq_false_iff_eq.mpr c13
                clear c13
                replace H := Option.bind_eq_some_iff.mp H
                obtain ⟨t294, A140, H⟩ := H
                replace H : (if t294 = true then (some 29) else (some 28)) = some r := H
                have A14 := Aside0.mk A140
                clear A140
                by_cases c15 : t294 = true
                · subst c15
                  have H1 : (some 29) = some r := by rw [if_pos rfl] at H; exact H
                  clear H
                  have H := H1
                  clear H1
                  obtain rfl := Option.some.inj H
                  go_wp2_with (first | ((with_reducible refine gate_callee (f := 55) rfl ?_); refine goesL_ (some 28) rfl rfl Try.func55 (by kernel_rfl) rfl #[.int .i64 a0] rfl (by (try simp only [List.map_toArray, List.map_cons, List.map_nil]); first | done | rfl | (simp only [List.length_drop, List.length_take]; rfl)) ?_; (with_reducible refine (day_Leap.calls a0 true _ A14.out).mono ?_); rintro e w' ⟨rfl, ⟨nd, rfl⟩⟩; refine ⟨_, rfl, ?_⟩))
                  go_ret
                  exact ⟨by first | rfl | (simp; done) | (simp [*]; done), by repeat (first | exact Drawn0.refl _ | apply Drawn0.step)⟩
                · replace c15 := Bool.eq_false_iff.mpr c15
                  subst c15
                  have H1 : (some 28) = some r := by rw [if_neg (show ¬ (false = true) by decide)] at H; exact H
                  clear H
                  have H := H1
                  clear H1
                  obtain rfl := Option.some.inj H
                  go_wp2_with (first | ((with_reducible refine gate_callee (f := 55) rfl ?_); refine goesL_ (some 28) rfl rfl Try.func55 (by kernel_rfl) rfl #[.int .i64 a0] rfl (by (try simp only [List.map_toArray, List.map_cons, List.map_nil]); first | done | rfl | (simp only [List.length_drop, List.length_take]; rfl)) ?_; (with_reducible refine (day_Leap.calls a0 false _ A14.out).mono ?_); rintro e w' ⟨rfl, ⟨nd, rfl⟩⟩; refine ⟨_, rfl, ?_⟩))
                  go_ret
                  exact ⟨by first | rfl | (simp; done) | (simp [*]; done), by repeat (first | exact Drawn0.refl _ | apply Drawn0.step)⟩
              · rw [if_neg c13] at H
                have c13b0 : (a1 == 2) = false := beq_eq_false_iff_ne.mpr c13
                have c13b1 : (a1 != 2) = true := bne_iff_ne.mpr c13
                obtain rfl := Option.some.inj H
                go_wp2
                go_ret
                exact ⟨by first | rfl | (simp; done) | (simp [*]; done), by repeat (first | exact Drawn0.refl _ | apply Drawn0.step)⟩

end Go.Proofs.Ytioicmialbimfaa.S
end
