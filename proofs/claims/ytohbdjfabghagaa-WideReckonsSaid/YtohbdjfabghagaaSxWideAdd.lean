/- Printed by a program of this session out of the translation: what each function called here computes, and that its call comes to just that. Conditions: none beyond those that each theorem names. -/
import Derived.Test.YtohbdjfabghagaaSx0
import Derived.Test.YtohbdjfabghagaaSxMathBitsAdd64
namespace Go.Proofs.Ytohbdjfabghagaa.S
open Go.RowKit Go.Proofs.YtohbdjfabghagaaW.PrintWords Go.Proofs.YtohbdjfabghagaaW.PrintLast Go.Proofs.YtohbdjfabghagaaW.PrintMore
attribute [local go_sem] max2_int min2_int max_two min_two max_three min_three max_four min_four   -- for this text's walks alone
attribute [local go_sem] Go.Proofs.Ytohbdjfabghagaa.XWalk.cell2
set_option linter.unusedVariables false
set_option linter.unusedSimpArgs false

/-! ### wide_Add: function 40 -/
def wide_Add.f (a0_0 : Int) (a0_1 : Int) (a1_0 : Int) (a1_1 : Int) : Option (Int × Int × Int) := if 0 ≤ a0_1 then (if 0 ≤ a1_1 then (if ((decide (a0_0 < 0)) == (decide (a1_0 < 0))) = true then (if (!((decide ((wrap64 ((wrap64 (a0_0 + a1_0)) + (wrap64 (Go.Proofs.Ytohbdjfabghagaa.XWalk.c64 a0_1 a1_1 0)))) < 0)) == (decide (a0_0 < 0)))) = true then (some (0, 0, 3)) else (some (wrap64 ((wrap64 (a0_0 + a1_0)) + (wrap64 (Go.Proofs.Ytohbdjfabghagaa.XWalk.c64 a0_1 a1_1 0))), Go.Proofs.Ytohbdjfabghagaa.XWalk.s64 a0_1 a1_1 0, 0))) else (some (wrap64 ((wrap64 (a0_0 + a1_0)) + (wrap64 (Go.Proofs.Ytohbdjfabghagaa.XWalk.c64 a0_1 a1_1 0))), Go.Proofs.Ytohbdjfabghagaa.XWalk.s64 a0_1 a1_1 0, 0))) else (none)) else (none)
set_option maxHeartbeats 8000000 in
set_option maxRecDepth 100000 in
theorem wide_Add.calls (a0_0 : Int) (a0_1 : Int) (a1_0 : Int) (a1_1 : Int) (r1 : Int) (r2 : Int) (r3 : Int) (w : World) (h : wide_Add.f a0_0 a0_1 a1_0 a1_1 = some (r1, r2, r3)) :
    Calls Try.prog 40 #[.agg #[.int .i64 a0_0, .int .u64 a0_1], .agg #[.int .i64 a1_0, .int .u64 a1_1]] w fun e w' => e = .returned (.tuple #[.agg #[.int .i64 r1, .int .u64 r2], .int .i64 r3]) ∧ Below w.heap.size w w' := by
  have hu24 := Try.underlying24
  have HB := Aside0.mk (Below.refl w.heap.size w)
  have H : (if 0 ≤ a0_1 then (if 0 ≤ a1_1 then (if ((decide (a0_0 < 0)) == (decide (a1_0 < 0))) = true then (if (!((decide ((wrap64 ((wrap64 (a0_0 + a1_0)) + (wrap64 (Go.Proofs.Ytohbdjfabghagaa.XWalk.c64 a0_1 a1_1 0)))) < 0)) == (decide (a0_0 < 0)))) = true then (some (0, 0, 3)) else (some (wrap64 ((wrap64 (a0_0 + a1_0)) + (wrap64 (Go.Proofs.Ytohbdjfabghagaa.XWalk.c64 a0_1 a1_1 0))), Go.Proofs.Ytohbdjfabghagaa.XWalk.s64 a0_1 a1_1 0, 0))) else (some (wrap64 ((wrap64 (a0_0 + a1_0)) + (wrap64 (Go.Proofs.Ytohbdjfabghagaa.XWalk.c64 a0_1 a1_1 0))), Go.Proofs.Ytohbdjfabghagaa.XWalk.s64 a0_1 a1_1 0, 0))) else (none)) else (none)) = some (r1, r2, r3) := h
  clear h
  by_cases c3 : 0 ≤ a0_1
  · rw [if_pos c3] at H
    have c3b0 := eq_true c3
    have c3b1 : decide (0 ≤ a0_1) = true := decide_eq_true c3
    clear c3
    by_cases c4 : 0 ≤ a1_1
    · rw [if_pos c4] at H
      have c4b0 := eq_true c4
      have c4b1 : decide (0 ≤ a1_1) = true := decide_eq_true c4
      clear c4
      have HC5 := Aside0.mk H
      clear H
      go_enter Try.func40, Try.ntmps40
      go_upto_region 3 with (first | ((with_reducible refine gate_dst (N := 2) rfl ?_); refine box_event ?hg (N := 2) ?hd (cs := #[.int .i64 a0_0, .int .u64 a0_1]) (t := 24) ?hr ?_; (case hd => rfl); (case hg => rfl); (case hr => first | (go_simp; done) | (go_simp; rfl)); intro gb153 hg w6 hbox hb; have n0_ := Aside0.mk (below_step (by repeat (first | (with_reducible first | exact HB.out | apply below_alloc | apply pw_below_drewN | apply below_drew1) | exact HB.out)) hb); have n1_ := Aside0.mk (hbox); have n2_ := Aside0.mk ((by rw [hg]; exact (below_size (by repeat (first | (with_reducible first | exact HB.out | apply below_alloc | apply pw_below_drewN | apply below_drew1) | exact HB.out))) : w.heap.size ≤ gb153)); have n3_ := Aside0.mk ((by rw [hg]; exact (below_size (by repeat (first | (with_reducible first | exact HB.out | apply below_alloc | apply pw_below_drewN | apply below_drew1) | exact HB.out))) : w.heap.size ≤ gb153)); clear HB; have HB := n0_; have BK153 := n1_; have GW153 := n2_; have GE153 := n3_; clear n0_ n1_ n2_ n3_; clear hb hbox hg) | ((with_reducible refine gate_dst (N := 3) rfl ?_); refine box_event ?hg (N := 3) ?hd (cs := #[.int .i64 a1_0, .int .u64 a1_1]) (t := 24) ?hr ?_; (case hd => rfl); (case hg => rfl); (case hr => first | (go_simp; done) | (go_simp; rfl)); intro gb154 hg w7 hbox hb; have n0_ := Aside0.mk (blk_below (g := gb153) (o := .cells #[.int .i64 a0_0, .int .u64 a0_1] 24 (0, 0)) (by (with_reducible repeat (first | refine blk_drewN ?_ _ | refine blk_drew ?_ | refine blk_alloc ?_ _)); exact BK153.out) hb); have n1_ := Aside0.mk (below_step (by repeat (first | (with_reducible first | exact HB.out | apply below_alloc | apply pw_below_drewN | apply below_drew1 | refine below_set ?_ GE153.out) | exact HB.out)) hb); have n2_ := Aside0.mk (hbox); have n3_ := Aside0.mk ((by rw [hg]; exact (below_size (by repeat (first | (with_reducible first | exact HB.out | apply below_alloc | apply pw_below_drewN | apply below_drew1 | refine below_set ?_ GE153.out) | exact HB.out))) : w.heap.size ≤ gb154)); have n4_ := Aside0.mk ((by rw [hg]; exact (below_size (by repeat (first | (with_reducible first | exact HB.out | apply below_alloc | apply pw_below_drewN | apply below_drew1 | refine below_set ?_ GE153.out) | exact HB.out))) : w.heap.size ≤ gb154)); have n5_ := Aside0.mk ((by rw [hg]; exact Nat.ne_of_lt (blk_lt (g := gb153) (o := .cells #[.int .i64 a0_0, .int .u64 a0_1] 24 (0, 0)) (by (with_reducible repeat (first | refine blk_drewN ?_ _ | refine blk_drew ?_ | refine blk_alloc ?_ _)); exact BK153.out)) : gb153 ≠ gb154)); have n6_ := Aside0.mk ((by rw [hg]; exact Nat.ne_of_gt (blk_lt (g := gb153) (o := .cells #[.int .i64 a0_0, .int .u64 a0_1] 24 (0, 0)) (by (with_reducible repeat (first | refine blk_drewN ?_ _ | refine blk_drew ?_ | refine blk_alloc ?_ _)); exact BK153.out)) : gb154 ≠ gb153)); clear BK153; clear HB; have BK153 := n0_; have HB := n1_; have BK154 := n2_; have GW154 := n3_; have GE154 := n4_; have NB153_154 := n5_; have NB154_153 := n6_; clear n0_ n1_ n2_ n3_ n4_ n5_ n6_; clear hb hbox hg) | ((with_reducible refine gate_dst (N := 4) rfl ?_); refine box_event ?hg (N := 4) ?hd (cs := #[.int .i64 0, .int .u64 0]) (t := 24) ?hr ?_; (case hd => rfl); (case hg => rfl); (case hr => first | (go_simp; done) | (go_simp; rfl)); intro gb155 hg w8 hbox hb; have n0_ := Aside0.mk (blk_below (g := gb153) (o := .cells #[.int .i64 a0_0, .int .u64 a0_1] 24 (0, 0)) (by (with_reducible repeat (first | refine blk_drewN ?_ _ | refine blk_drew ?_ | refine blk_alloc ?_ _)); exact BK153.out) hb); have n1_ := Aside0.mk (blk_below (g := gb154) (o := .cells #[.int .i64 a1_0, .int .u64 a1_1] 24 (0, 0)) (by (with_reducible repeat (first | refine blk_drewN ?_ _ | refine blk_drew ?_ | refine blk_alloc ?_ _)); exact BK154.out) hb); have n2_ := Aside0.mk (below_step (by repeat (first | (with_reducible first | exact HB.out | apply below_alloc | apply pw_below_drewN | apply below_drew1 | refine below_set ?_ GE153.out | refine below_set ?_ GE154.out) | exact HB.out)) hb); have n3_ := Aside0.mk (hbox); have n4_ := Aside0.mk ((by rw [hg]; exact (below_size (by repeat (first | (with_reducible first | exact HB.out | apply below_alloc | apply pw_below_drewN | apply below_drew1 | refine below_set ?_ GE153.out | refine below_set ?_ GE154.out) | exact HB.out))) : w.heap.size ≤ gb155)); have n5_ := Aside0.mk ((by rw [hg]; exact (below_size (by repeat (first | (with_reducible first | exact HB.out | apply below_alloc | apply pw_below_drewN | apply below_drew1 | refine below_set ?_ GE153.out | refine below_set ?_ GE154.out) | exact HB.out))) : w.heap.size ≤ gb155)); have n6_ := Aside0.mk ((by rw [hg]; exact Nat.ne_of_lt (blk_lt (g := gb153) (o := .cells #[.int .i64 a0_0, .int .u64 a0_1] 24 (0, 0)) (by (with_reducible repeat (first | refine blk_drewN ?_ _ | refine blk_drew ?_ | refine blk_alloc ?_ _)); exact BK153.out)) : gb153 ≠ gb155)); have n7_ := Aside0.mk ((by rw [hg]; exact Nat.ne_of_gt (blk_lt (g := gb153) (o := .cells #[.int .i64 a0_0, .int .u64 a0_1] 24 (0, 0)) (by (with_reducible repeat (first | refine blk_drewN ?_ _ | refine blk_drew ?_ | refine blk_alloc ?_ _)); exact BK153.out)) : gb155 ≠ gb153)); have n8_ := Aside0.mk ((by rw [hg]; exact Nat.ne_of_lt (blk_lt (g := gb154) (o := .cells #[.int .i64 a1_0, .int .u64 a1_1] 24 (0, 0)) (by (with_reducible repeat (first | refine blk_drewN ?_ _ | refine blk_drew ?_ | refine blk_alloc ?_ _)); exact BK154.out)) : gb154 ≠ gb155)); have n9_ := Aside0.mk ((by rw [hg]; exact Nat.ne_of_gt (blk_lt (g := gb154) (o := .cells #[.int .i64 a1_0, .int .u64 a1_1] 24 (0, 0)) (by (with_reducible repeat (first | refine blk_drewN ?_ _ | refine blk_drew ?_ | refine blk_alloc ?_ _)); exact BK154.out)) : gb155 ≠ gb154)); clear BK153; clear BK154; clear HB; have BK153 := n0_; have BK154 := n1_; have HB := n2_; have BK155 := n3_; have GW155 := n4_; have GE155 := n5_; have NB153_155 := n6_; have NB155_153 := n7_; have NB154_155 := n8_; have NB155_154 := n9_; clear n0_ n1_ n2_ n3_ n4_ n5_ n6_ n7_ n8_ n9_; clear hb hbox hg; have hnb9 := NB153_154.out; have hnc9 := NB154_153.out; have hnb10 := NB153_155.out; have hnc10 := NB155_153.out; have hcz11_0 : w8.cell? ⟨gb153, 0, none⟩ = some (.int .i64 a0_0) := (blk_cell BK153.out 0).trans rfl; have hcz11_1 : w8.cell? ⟨gb153, 1, none⟩ = some (.int .u64 a0_1) := (blk_cell BK153.out 1).trans rfl; have hfz11_0 := blk_frozen BK153.out 0; have hfz11_1 := blk_frozen BK153.out 1; have hnb12 := NB154_155.out; have hnc12 := NB155_154.out; have hcz13_0 : w8.cell? ⟨gb154, 0, none⟩ = some (.int .i64 a1_0) := (blk_cell BK154.out 0).trans rfl; have hcz13_1 : w8.cell? ⟨gb154, 1, none⟩ = some (.int .u64 a1_1) := (blk_cell BK154.out 1).trans rfl; have hfz13_0 := blk_frozen BK154.out 0; have hfz13_1 := blk_frozen BK154.out 1; have hx14 := fun W => math_bits_Add64.run a0_1 a1_1 0 W (by first | omega | exact of_decide_eq_true (by first | (with_reducible assumption) | assumption) | exact of_eq_true (by assumption)) (by first | omega | exact of_decide_eq_true (by first | (with_reducible assumption) | assumption) | exact of_eq_true (by assumption)) (by first | omega | exact of_decide_eq_true (by first | (with_reducible assumption) | assumption) | exact of_eq_true (by assumption)) (by first | omega | exact of_decide_eq_true (by first | (with_reducible assumption) | assumption) | exact of_eq_true (by assumption))))
      have H := HC5.out
      clear HC5
      by_cases c15 : ((decide (a0_0 < 0)) == (decide (a1_0 < 0))) = true
      · rw [if_pos c15] at H
        have c15b0 : ((decide (a0_0 < 0)) == (decide (a1_0 < 0))) = true := c15
        (try (have c15b1 : decide ((decide (a0_0 < 0)) = (decide (a1_0 < 0))) = true := by simpa using c15))
        (try (have c15b2 : ((decide (a0_0 < 0)) == (decide (a1_0 < 0))) = true := by simpa using c15))
        clear c15
        by_cases c16 : (!((decide ((wrap64 ((wrap64 (a0_0 + a1_0)) + (wrap64 (Go.Proofs.Ytohbdjfabghagaa.XWalk.c64 a0_1 a1_1 0)))) < 0)) == (decide (a0_0 < 0)))) = true
        · rw [if_pos c16] at H
          have c16b0 : (!((decide ((wrap64 ((wrap64 (a0_0 + a1_0)) + (wrap64 (Go.Proofs.Ytohbdjfabghagaa.XWalk.c64 a0_1 a1_1 0)))) < 0)) == (decide (a0_0 < 0)))) = true := c16
          clear c16
          simp only [Option.some.injEq, Prod.mk.injEq] at H
          obtain ⟨rfl, rfl, rfl⟩ := H
          have hnb17 := NB153_154.out
          have hnc17 := NB154_153.out
          have hnb18 := NB153_155.out
          have hnc18 := NB155_153.out
          have hcz19_0 : w8.cell? ⟨gb153, 0, none⟩ = some (.int .i64 a0_0) := (blk_cell BK153.out 0).trans rfl
          have hcz19_1 : w8.cell? ⟨gb153, 1, none⟩ = some (.int .u64 a0_1) := (blk_cell BK153.out 1).trans rfl
          have hfz19_0 := blk_frozen BK153.out 0
          have hfz19_1 := blk_frozen BK153.out 1
          have hnb20 := NB154_155.out
          have hnc20 := NB155_154.out
          have hcz21_0 : w8.cell? ⟨gb154, 0, none⟩ = some (.int .i64 a1_0) := (blk_cell BK154.out 0).trans rfl
          have hcz21_1 : w8.cell? ⟨gb154, 1, none⟩ = some (.int .u64 a1_1) := (blk_cell BK154.out 1).trans rfl
          have hfz21_0 := blk_frozen BK154.out 0
          have hfz21_1 := blk_frozen BK154.out 1
          have hcz22_0 : w8.cell? ⟨gb155, 0, none⟩ = some (.int .i64 0) := (blk_cell BK155.out 0).trans rfl
          have hcz22_1 : w8.cell? ⟨gb155, 1, none⟩ = some (.int .u64 0) := (blk_cell BK155.out 1).trans rfl
          have hfz22_0 := blk_frozen BK155.out 0
          have hfz22_1 := blk_frozen BK155.out 1
          go_wp2
          refine bodyPost_ret (results_ct rfl _ _ gb155 24 #[.int .i64 0, .int .u64 0] (0, 0) _ rfl (by (with_reducible repeat (first | refine blk_drewN ?_ _ | refine blk_drew ?_ | refine blk_alloc ?_ _)); refine blk_put (cs := #[.int .i64 0, .int .u64 0]) ?_ 1 _ rfl; (with_reducible repeat (first | refine blk_drewN ?_ _ | refine blk_drew ?_ | refine blk_alloc ?_ _)); refine blk_put (cs := #[.int .i64 0, .int .u64 0]) ?_ 0 _ rfl; (with_reducible repeat (first | refine blk_drewN ?_ _ | refine blk_drew ?_ | refine blk_alloc ?_ _)); exact BK155.out) Try.underlying24 rfl (by kernel_rfl)) rfl ?_
          exact ⟨by first | rfl | (simp [errW_none, errW_some] <;> rfl) | (simp [*, errW_none, errW_some] <;> rfl), by repeat (first | (with_reducible first | exact HB.out | apply below_alloc | apply pw_below_drewN | apply below_drew1 | refine below_set ?_ GE153.out | refine below_set ?_ GE154.out | refine below_set ?_ GE155.out) | exact HB.out)⟩
        · rw [if_neg c16] at H
          have c16b0 : (!((decide ((wrap64 ((wrap64 (a0_0 + a1_0)) + (wrap64 (Go.Proofs.Ytohbdjfabghagaa.XWalk.c64 a0_1 a1_1 0)))) < 0)) == (decide (a0_0 < 0)))) = false := by simpa using c16
          clear c16
          simp only [Option.some.injEq, Prod.mk.injEq] at H
          obtain ⟨rfl, rfl, rfl⟩ := H
          have hnb23 := NB153_154.out
          have hnc23 := NB154_153.out
          have hnb24 := NB153_155.out
          have hnc24 := NB155_153.out
          have hcz25_0 : w8.cell? ⟨gb153, 0, none⟩ = some (.int .i64 a0_0) := (blk_cell BK153.out 0).trans rfl
          have hcz25_1 : w8.cell? ⟨gb153, 1, none⟩ = some (.int .u64 a0_1) := (blk_cell BK153.out 1).trans rfl
          have hfz25_0 := blk_frozen BK153.out 0
          have hfz25_1 := blk_frozen BK153.out 1
          have hnb26 := NB154_155.out
          have hnc26 := NB155_154.out
          have hcz27_0 : w8.cell? ⟨gb154, 0, none⟩ = some (.int .i64 a1_0) := (blk_cell BK154.out 0).trans rfl
          have hcz27_1 : w8.cell? ⟨gb154, 1, none⟩ = some (.int .u64 a1_1) := (blk_cell BK154.out 1).trans rfl
          have hfz27_0 := blk_frozen BK154.out 0
          have hfz27_1 := blk_frozen BK154.out 1
          have hcz28_0 : w8.cell? ⟨gb155, 0, none⟩ = some (.int .i64 0) := (blk_cell BK155.out 0).trans rfl
          have hcz28_1 : w8.cell? ⟨gb155, 1, none⟩ = some (.int .u64 0) := (blk_cell BK155.out 1).trans rfl
          have hfz28_0 := blk_frozen BK155.out 0
          have hfz28_1 := blk_frozen BK155.out 1
          go_wp2
          refine bodyPost_ret (results_ct rfl _ _ gb155 24 #[.int .i64 (wrap64 ((wrap64 (a0_0 + a1_0)) + (wrap64 (Go.Proofs.Ytohbdjfabghagaa.XWalk.c64 a0_1 a1_1 0)))), .int .u64 (Go.Proofs.Ytohbdjfabghagaa.XWalk.s64 a0_1 a1_1 0)] (0, 0) _ rfl (by (with_reducible repeat (first | refine blk_drewN ?_ _ | refine blk_drew ?_ | refine blk_alloc ?_ _)); refine blk_put (cs := #[.int .i64 (wrap64 ((wrap64 (a0_0 + a1_0)) + (wrap64 (Go.Proofs.Ytohbdjfabghagaa.XWalk.c64 a0_1 a1_1 0)))), .int .u64 0]) ?_ 1 _ rfl; (with_reducible repeat (first | refine blk_drewN ?_ _ | refine blk_drew ?_ | refine blk_alloc ?_ _)); refine blk_put (cs := #[.int .i64 0, .int .u64 0]) ?_ 0 _ rfl; (with_reducible repeat (first | refine blk_drewN ?_ _ | refine blk_drew ?_ | refine blk_alloc ?_ _)); exact BK155.out) Try.underlying24 rfl (by kernel_rfl)) rfl ?_
          exact ⟨by first | rfl | (simp [errW_none, errW_some] <;> rfl) | (simp [*, errW_none, errW_some] <;> rfl), by repeat (first | (with_reducible first | exact HB.out | apply below_alloc | apply pw_below_drewN | apply below_drew1 | refine below_set ?_ GE153.out | refine below_set ?_ GE154.out | refine below_set ?_ GE155.out) | exact HB.out)⟩
      · rw [if_neg c15] at H
        have c15b0 : ((decide (a0_0 < 0)) == (decide (a1_0 < 0))) = false := by simpa using c15
        (try (have c15b1 : decide ((decide (a0_0 < 0)) = (decide (a1_0 < 0))) = false := by simpa using c15))
        (try (have c15b2 : ((decide (a0_0 < 0)) == (decide (a1_0 < 0))) = false := by simpa using c15))
        (try (have c15b3 : ¬ ((decide (a0_0 < 0)) = (decide (a1_0 < 0))) := by simpa using c15))
        clear c15
        simp only [Option.some.injEq, Prod.mk.injEq] at H
        obtain ⟨rfl, rfl, rfl⟩ := H
        have hnb29 := NB153_154.out
        have hnc29 := NB154_153.out
        have hnb30 := NB153_155.out
        have hnc30 := NB155_153.out
        have hcz31_0 : w8.cell? ⟨gb153, 0, none⟩ = some (.int .i64 a0_0) := (blk_cell BK153.out 0).trans rfl
        have hcz31_1 : w8.cell? ⟨gb153, 1, none⟩ = some (.int .u64 a0_1) := (blk_cell BK153.out 1).trans rfl
        have hfz31_0 := blk_frozen BK153.out 0
        have hfz31_1 := blk_frozen BK153.out 1
        have hnb32 := NB154_155.out
        have hnc32 := NB155_154.out
        have hcz33_0 : w8.cell? ⟨gb154, 0, none⟩ = some (.int .i64 a1_0) := (blk_cell BK154.out 0).trans rfl
        have hcz33_1 : w8.cell? ⟨gb154, 1, none⟩ = some (.int .u64 a1_1) := (blk_cell BK154.out 1).trans rfl
        have hfz33_0 := blk_frozen BK154.out 0
        have hfz33_1 := blk_frozen BK154.out 1
        have hcz34_0 : w8.cell? ⟨gb155, 0, none⟩ = some (.int .i64 0) := (blk_cell BK155.out 0).trans rfl
        have hcz34_1 : w8.cell? ⟨gb155, 1, none⟩ = some (.int .u64 0) := (blk_cell BK155.out 1).trans rfl
        have hfz34_0 := blk_frozen BK155.out 0
        have hfz34_1 := blk_frozen BK155.out 1
        go_wp2
        refine bodyPost_ret (results_ct rfl _ _ gb155 24 #[.int .i64 (wrap64 ((wrap64 (a0_0 + a1_0)) + (wrap64 (Go.Proofs.Ytohbdjfabghagaa.XWalk.c64 a0_1 a1_1 0)))), .int .u64 (Go.Proofs.Ytohbdjfabghagaa.XWalk.s64 a0_1 a1_1 0)] (0, 0) _ rfl (by (with_reducible repeat (first | refine blk_drewN ?_ _ | refine blk_drew ?_ | refine blk_alloc ?_ _)); refine blk_put (cs := #[.int .i64 (wrap64 ((wrap64 (a0_0 + a1_0)) + (wrap64 (Go.Proofs.Ytohbdjfabghagaa.XWalk.c64 a0_1 a1_1 0)))), .int .u64 0]) ?_ 1 _ rfl; (with_reducible repeat (first | refine blk_drewN ?_ _ | refine blk_drew ?_ | refine blk_alloc ?_ _)); refine blk_put (cs := #[.int .i64 0, .int .u64 0]) ?_ 0 _ rfl; (with_reducible repeat (first | refine blk_drewN ?_ _ | refine blk_drew ?_ | refine blk_alloc ?_ _)); exact BK155.out) Try.underlying24 rfl (by kernel_rfl)) rfl ?_
        exact ⟨by first | rfl | (simp [errW_none, errW_some] <;> rfl) | (simp [*, errW_none, errW_some] <;> rfl), by repeat (first | (with_reducible first | exact HB.out | apply below_alloc | apply pw_below_drewN | apply below_drew1 | refine below_set ?_ GE153.out | refine below_set ?_ GE154.out | refine below_set ?_ GE155.out) | exact HB.out)⟩
    · rw [if_neg c4] at H
      exact absurd H (by simp)
  · rw [if_neg c3] at H
    exact absurd H (by simp)

end Go.Proofs.Ytohbdjfabghagaa.S
