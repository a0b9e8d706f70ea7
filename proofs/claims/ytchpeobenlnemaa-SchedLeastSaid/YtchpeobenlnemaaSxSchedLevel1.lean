/- Printed by a program of this session out of the translation: what each function called here computes, and that its call comes to just that. Conditions: none beyond those that each theorem names. -/
import Derived.Test.YtchpeobenlnemaaSx0
import Derived.Test.YtchpeobenlnemaaSxRateInterest
namespace Go.Proofs.Ytchpeobenlnemaa.S
open Go.RowKit Go.Proofs.YtchpeobenlnemaaW.PrintWords Go.Proofs.YtchpeobenlnemaaW.PrintLast Go.Proofs.YtchpeobenlnemaaW.PrintMore
attribute [local go_sem] max2_int min2_int max_two min_two max_three min_three max_four min_four   -- for this text's walks alone
attribute [local go_sem] Go.Proofs.Ytchpeobenlnemaa.XWalk.cell2
set_option linter.unusedVariables false
set_option linter.unusedSimpArgs false

/-! ### sched_Level_1: function 36 -/
def sched_Level_1.f (k : Nat) (a0 : Int) (a1_0 : Int) : Option (Int) := (rate_Interest.f k a0 a1_0).bind fun bt148 => (some bt148.1)
theorem sched_Level_1.mono : ∀ a0 a1 k, LeO (sched_Level_1.f k a0 a1) (sched_Level_1.f (k + 1) a0 a1) := by
  intro a0 a1 k
  unfold sched_Level_1.f
  repeat' first
      | (with_reducible exact rate_Interest.mono _ _ _)
      | (with_reducible exact LeO.refl _)
      | (with_reducible exact LeO.none _)
      | (with_reducible refine LeO.ite ?_ ?_)
      | (with_reducible refine LeO.bind ?_ (fun _ => ?_))
      | exact rate_Interest.mono _ _ _
      | exact LeO.none _
      | refine LeO.ite ?_ ?_
      | refine LeO.bind ?_ (fun _ => ?_)
set_option maxHeartbeats 8000000 in
set_option maxRecDepth 100000 in
theorem sched_Level_1.calls (k : Nat) (a0 : Int) (gc1 : Nat) (a1_0 : Int) (r : Int) (w : World) (hgc1 : w.heap[gc1]? = some (.cells #[.int .i64 a1_0] 2 (0, 0))) (h : sched_Level_1.f k a0 a1_0 = some r) :
    Calls Try.prog 36 #[.int .i64 a0, .pointer (some ⟨gc1, 0, none⟩)] w fun e w' => e = .returned (.int .i64 r) ∧ Below w.heap.size w w' := by
  have BK147 := Aside0.mk hgc1
  clear hgc1
  have HB := Aside0.mk (Below.refl w.heap.size w)
  have H : ((rate_Interest.f k a0 a1_0).bind fun bt148 => (some bt148.1)) = some r := h
  clear h
  replace H := Option.bind_eq_some_iff.mp H
  obtain ⟨⟨t148, t149⟩, A30, H⟩ := H
  replace H : (some t148) = some r := H
  have A3 := Aside0.mk A30
  clear A30
  obtain rfl := Option.some.inj H
  have hcz4_0 : w.cell? ⟨gc1, 0, none⟩ = some (.int .i64 a1_0) := (blk_cell BK147.out 0).trans rfl
  have hfz4_0 := blk_frozen BK147.out 0
  go_enter Try.func36, Try.ntmps36
  go_wp2_with (first | ((with_reducible refine gate_callee (f := 19) rfl ?_); refine goesL_ (some 9) rfl rfl Try.func19 (by kernel_rfl) rfl #[.int .i64 a0, .int .i64 a1_0] rfl (by (try simp only [List.map_toArray, List.map_cons, List.map_nil]); first | done | rfl | (simp only [List.length_drop, List.length_take]; rfl)) ?_; (with_reducible refine (rate_Interest.calls k a0 a1_0 t148 t149 _ A3.out).mono ?_); rintro e w5 ⟨rfl, hb⟩; refine ⟨_, rfl, ?_⟩; have n0_ := Aside0.mk (blk_below (g := gc1) (o := .cells #[.int .i64 a1_0] 2 (0, 0)) (by (with_reducible repeat (first | refine blk_drewN ?_ _ | refine blk_drew ?_ | refine blk_alloc ?_ _)); exact BK147.out) hb); have n1_ := Aside0.mk (below_step (by repeat (first | (with_reducible first | exact HB.out | apply below_alloc | apply pw_below_drewN | apply below_drew1 | refine below_set ?_ GE147.out) | exact HB.out)) hb); clear BK147; clear HB; have BK147 := n0_; have HB := n1_; clear n0_ n1_; (try clear hb); (try clear hb2); (try clear hk); (try clear hi)))
  go_ret
  exact ⟨by first | rfl | (simp [errW_none, errW_some] <;> rfl) | (simp [*, errW_none, errW_some] <;> rfl), by repeat (first | (with_reducible first | exact HB.out | apply below_alloc | apply pw_below_drewN | apply below_drew1 | refine below_set ?_ GE147.out) | exact HB.out)⟩

end Go.Proofs.Ytchpeobenlnemaa.S
