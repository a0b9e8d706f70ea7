/- Printed by a program of this session out of the translation: what each function called here computes, and that its call comes to just that. Conditions: none beyond those that each theorem names. -/
import Derived.Test.YtalnlphinlfenaaSx0
import Derived.Test.YtalnlphinlfenaaSxMoneyAdd
import Derived.Test.YtalnlphinlfenaaSxRateDiscount
namespace Go.Proofs.Ytalnlphinlfenaa.S
open Go.RowKit Go.Proofs.YtalnlphinlfenaaW.PrintWords Go.Proofs.YtalnlphinlfenaaW.PrintLast Go.Proofs.YtalnlphinlfenaaW.PrintMore
attribute [local go_sem] max2_int min2_int max_two min_two max_three min_three max_four min_four   -- for this text's walks alone
attribute [local go_sem] Go.Proofs.Ytalnlphinlfenaa.XWalk.cell2
set_option linter.unusedVariables false
set_option linter.unusedSimpArgs false

/-! ### value_times_2: function 57 -/
def value_times_2.f (k : Nat) (a0 : Int) (a1 : Int) (a2_0 : Int) (a3_0 : Int) : Option (Int × Int) := (money_Add.f (wrap64 (a0 * a2_0)) a1).bind fun bt299 => (if bt299.2 = 0 then ((rate_Discount.f k bt299.1 a3_0).bind fun bt301 => (if bt301.2 = 0 then (if bt301.1 > 4611686018427387904 then (some (bt301.1, 3)) else (if bt301.1 < (-4611686018427387904) then (some (bt301.1, 3)) else (some (bt301.1, bt301.2)))) else (some (bt301.1, bt301.2)))) else (some (0, bt299.2)))
theorem value_times_2.mono : ∀ a0 a1 a2 a3 k, LeO (value_times_2.f k a0 a1 a2 a3) (value_times_2.f (k + 1) a0 a1 a2 a3) := by
  intro a0 a1 a2 a3 k
  unfold value_times_2.f
  repeat' first
      | (with_reducible exact rate_Discount.mono _ _ _)
      | (with_reducible exact LeO.refl _)
      | (with_reducible exact LeO.none _)
      | (with_reducible refine LeO.ite ?_ ?_)
      | (with_reducible refine LeO.bind ?_ (fun _ => ?_))
      | exact rate_Discount.mono _ _ _
      | exact LeO.none _
      | refine LeO.ite ?_ ?_
      | refine LeO.bind ?_ (fun _ => ?_)
set_option maxHeartbeats 8000000 in
set_option maxRecDepth 100000 in
theorem value_times_2.calls (k : Nat) (a0 : Int) (a1 : Int) (gc2 : Nat) (a2_0 : Int) (gc3 : Nat) (a3_0 : Int) (r1 : Int) (r2 : Int) (w : World) (hgc2 : w.heap[gc2]? = some (.cells #[.int .i64 a2_0] 2 (0, 0))) (hgc3 : w.heap[gc3]? = some (.cells #[.int .i64 a3_0] 2 (0, 0))) (h : value_times_2.f k a0 a1 a2_0 a3_0 = some (r1, r2)) :
    Calls Try.prog 57 #[.int .i64 a0, .int .i64 a1, .pointer (some ⟨gc2, 0, none⟩), .pointer (some ⟨gc3, 0, none⟩)] w fun e w' => e = .returned (.tuple #[.int .i64 r1, .int .i64 r2]) ∧ Below w.heap.size w w' := by
  have BK297 := Aside0.mk hgc2
  clear hgc2
  have BK298 := Aside0.mk hgc3
  clear hgc3
  have HB := Aside0.mk (Below.refl w.heap.size w)
  have H : ((money_Add.f (wrap64 (a0 * a2_0)) a1).bind fun bt299 => (if bt299.2 = 0 then ((rate_Discount.f k bt299.1 a3_0).bind fun bt301 => (if bt301.2 = 0 then (if bt301.1 > 4611686018427387904 then (some (bt301.1, 3)) else (if bt301.1 < (-4611686018427387904) then (some (bt301.1, 3)) else (some (bt301.1, bt301.2)))) else (some (bt301.1, bt301.2)))) else (some (0, bt299.2)))) = some (r1, r2) := h
  clear h
  replace H := Option.bind_eq_some_iff.mp H
  obtain ⟨⟨t299, t300⟩, A50, H⟩ := H
  replace H : (if t300 = 0 then ((rate_Discount.f k t299 a3_0).bind fun bt301 => (if bt301.2 = 0 then (if bt301.1 > 4611686018427387904 then (some (bt301.1, 3)) else (if bt301.1 < (-4611686018427387904) then (some (bt301.1, 3)) else (some (bt301.1, bt301.2)))) else (some (bt301.1, bt301.2)))) else (some (0, t300))) = some (r1, r2) := H
  have A5 := Aside0.mk A50
  clear A50
  by_cases c6 : t300 = 0
  · rw [if_pos c6] at H
    have c6b0 : (t300 == 0) = true := beq_iff_eq.mpr c6
    have c6b1 : (t300 != 0) = false := bne_eq_false_iff_eq.mpr c6
    clear c6
    replace H := Option.bind_eq_some_iff.mp H
    obtain ⟨⟨t301, t302⟩, A70, H⟩ := H
    replace H : (if t302 = 0 then (if t301 > 4611686018427387904 then (some (t301, 3)) else (if t301 < (-4611686018427387904) then (some (t301, 3)) else (some (t301, t302)))) else (some (t301, t302))) = some (r1, r2) := H
    have A7 := Aside0.mk A70
    clear A70
    have HC8 := Aside0.mk H
    clear H
    have hcz9_0 : w.cell? ⟨gc2, 0, none⟩ = some (.int .i64 a2_0) := (blk_cell BK297.out 0).trans rfl
    have hfz9_0 := blk_frozen BK297.out 0
    go_enter Try.func57, Try.ntmps57
    go_upto_region 5 with (first | ((with_reducible refine gate_callee (f := 50) rfl ?_); refine goesL_ (some 16) rfl rfl Try.func50 (by kernel_rfl) rfl #[.int .i64 (wrap64 (a0 * a2_0)), .int .i64 a1] rfl (by (try simp only [List.map_toArray, List.map_cons, List.map_nil]); first | done | rfl | (simp only [List.length_drop, List.length_take]; rfl)) ?_; (with_reducible refine (money_Add.calls (wrap64 (a0 * a2_0)) a1 t299 t300 _ A5.out).mono ?_); rintro e w' ⟨rfl, ⟨nd, rfl⟩⟩; refine ⟨_, rfl, ?_⟩; have hcz10_0 : w.cell? ⟨gc3, 0, none⟩ = some (.int .i64 a3_0) := (blk_cell BK298.out 0).trans rfl; have hfz10_0 := blk_frozen BK298.out 0) | ((with_reducible refine gate_callee (f := 19) rfl ?_); refine goesL_ (some 25) rfl rfl Try.func19 (by kernel_rfl) rfl #[.int .i64 t299, .int .i64 a3_0] rfl (by (try simp only [List.map_toArray, List.map_cons, List.map_nil]); first | done | rfl | (simp only [List.length_drop, List.length_take]; rfl)) ?_; (with_reducible refine (rate_Discount.calls k t299 a3_0 t301 t302 _ A7.out).mono ?_); rintro e w11 ⟨rfl, hb⟩; refine ⟨_, rfl, ?_⟩; have n0_ := Aside0.mk (blk_below (g := gc2) (o := .cells #[.int .i64 a2_0] 2 (0, 0)) (by (with_reducible repeat (first | refine blk_drewN ?_ _ | refine blk_drew ?_ | refine blk_alloc ?_ _)); exact BK297.out) hb); have n1_ := Aside0.mk (blk_below (g := gc3) (o := .cells #[.int .i64 a3_0] 2 (0, 0)) (by (with_reducible repeat (first | refine blk_drewN ?_ _ | refine blk_drew ?_ | refine blk_alloc ?_ _)); exact BK298.out) hb); have n2_ := Aside0.mk (below_step (by repeat (first | (with_reducible first | exact HB.out | apply below_alloc | apply pw_below_drewN | apply below_drew1 | refine below_set ?_ GE297.out | refine below_set ?_ GE298.out) | exact HB.out)) hb); clear BK297; clear BK298; clear HB; have BK297 := n0_; have BK298 := n1_; have HB := n2_; clear n0_ n1_ n2_; (try clear hb); (try clear hb2); (try clear hk); (try clear hi)))
    have H := HC8.out
    clear HC8
    by_cases c12 : t302 = 0
    · rw [if_pos c12] at H
      have c12b0 : (t302 == 0) = true := beq_iff_eq.mpr c12
      have c12b1 : (t302 != 0) = false := bne_eq_false_iff_eq.mpr c12
      clear c12
      by_cases c13 : t301 > 4611686018427387904
      · rw [if_pos c13] at H
        have c13b0 : decide (4611686018427387904 < t301) = true := decide_eq_true c13
        clear c13
        simp only [Option.some.injEq, Prod.mk.injEq] at H
        obtain ⟨rfl, rfl⟩ := H
        go_wp2
        go_ret2
        exact ⟨by first | rfl | (simp [errW_none, errW_some] <;> rfl) | (simp [*, errW_none, errW_some] <;> rfl), by repeat (first | (with_reducible first | exact HB.out | apply below_alloc | apply pw_below_drewN | apply below_drew1 | refine below_set ?_ GE297.out | refine below_set ?_ GE298.out) | exact HB.out)⟩
      · rw [if_neg c13] at H
        have c13b0 : decide (4611686018427387904 < t301) = false := decide_eq_false c13
        clear c13
        by_cases c14 : t301 < (-4611686018427387904)
        · rw [if_pos c14] at H
          have c14b0 : decide (t301 < (-4611686018427387904)) = true := decide_eq_true c14
          clear c14
          simp only [Option.some.injEq, Prod.mk.injEq] at H
          obtain ⟨rfl, rfl⟩ := H
          go_wp2
          go_ret2
          exact ⟨by first | rfl | (simp [errW_none, errW_some] <;> rfl) | (simp [*, errW_none, errW_some] <;> rfl), by repeat (first | (with_reducible first | exact HB.out | apply below_alloc | apply pw_below_drewN | apply below_drew1 | refine below_set ?_ GE297.out | refine below_set ?_ GE298.out) | exact HB.out)⟩
        · rw [if_neg c14] at H
          have c14b0 : decide (t301 < (-4611686018427387904)) = false := decide_eq_false c14
          clear c14
          simp only [Option.some.injEq, Prod.mk.injEq] at H
          obtain ⟨rfl, rfl⟩ := H
          go_wp2
          go_ret2
          exact ⟨by first | rfl | (simp [errW_none, errW_some] <;> rfl) | (simp [*, errW_none, errW_some] <;> rfl), by repeat (first | (with_reducible first | exact HB.out | apply below_alloc | apply pw_below_drewN | apply below_drew1 | refine below_set ?_ GE297.out | refine below_set ?_ GE298.out) | exact HB.out)⟩
    · rw [if_neg c12] at H
      have c12b0 : (t302 == 0) = false := beq_eq_false_iff_ne.mpr c12
      have c12b1 : (t302 != 0) = true := bne_iff_ne.mpr c12
      simp only [Option.some.injEq, Prod.mk.injEq] at H
      obtain ⟨rfl, rfl⟩ := H
      go_wp2
      go_ret2
      exact ⟨by first | rfl | (simp [errW_none, errW_some] <;> rfl) | (simp [*, errW_none, errW_some] <;> rfl), by repeat (first | (with_reducible first | exact HB.out | apply below_alloc | apply pw_below_drewN | apply below_drew1 | refine below_set ?_ GE297.out | refine below_set ?_ GE298.out) | exact HB.out)⟩
  · rw [if_neg c6] at H
    have c6b0 : (t300 == 0) = false := beq_eq_false_iff_ne.mpr c6
    have c6b1 : (t300 != 0) = true := bne_iff_ne.mpr c6
    simp only [Option.some.injEq, Prod.mk.injEq] at H
    obtain ⟨rfl, rfl⟩ := H
    have hcz15_0 : w.cell? ⟨gc2, 0, none⟩ = some (.int .i64 a2_0) := (blk_cell BK297.out 0).trans rfl
    have hfz15_0 := blk_frozen BK297.out 0
    go_enter Try.func57, Try.ntmps57
    go_wp2_with (first | ((with_reducible refine gate_callee (f := 50) rfl ?_); refine goesL_ (some 16) rfl rfl Try.func50 (by kernel_rfl) rfl #[.int .i64 (wrap64 (a0 * a2_0)), .int .i64 a1] rfl (by (try simp only [List.map_toArray, List.map_cons, List.map_nil]); first | done | rfl | (simp only [List.length_drop, List.length_take]; rfl)) ?_; (with_reducible refine (money_Add.calls (wrap64 (a0 * a2_0)) a1 t299 t300 _ A5.out).mono ?_); rintro e w' ⟨rfl, ⟨nd, rfl⟩⟩; refine ⟨_, rfl, ?_⟩))
    go_ret2
    exact ⟨by first | rfl | (simp [errW_none, errW_some] <;> rfl) | (simp [*, errW_none, errW_some] <;> rfl), by repeat (first | (with_reducible first | exact HB.out | apply below_alloc | apply pw_below_drewN | apply below_drew1 | refine below_set ?_ GE297.out | refine below_set ?_ GE298.out) | exact HB.out)⟩

end Go.Proofs.Ytalnlphinlfenaa.S
