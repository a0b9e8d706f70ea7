/- Printed by a program of this session out of the translation: what each function called here computes, and that its call comes to just that. Conditions: none beyond those that each theorem names. -/
import Derived.Test.YtchpeobenlnemaaSx0
import Derived.Test.YtchpeobenlnemaaSxSchedLevel1
namespace Go.Proofs.Ytchpeobenlnemaa.S
open Go.RowKit Go.Proofs.YtchpeobenlnemaaW.PrintWords Go.Proofs.YtchpeobenlnemaaW.PrintLast Go.Proofs.YtchpeobenlnemaaW.PrintMore
attribute [local go_sem] max2_int min2_int max_two min_two max_three min_three max_four min_four   -- for this text's walks alone
attribute [local go_sem] Go.Proofs.Ytchpeobenlnemaa.XWalk.cell2
set_option linter.unusedVariables false
set_option linter.unusedSimpArgs false

/-! ### sched_Level_2: function 38 -/
def sched_Level_2.l0 : Nat → Int → Int → Int → Int → Int → Option (Bool)
  | 0, _, _, _, _, _ => none
  | k + 1, x0, x6, x9, x10, x154000 => if x10 < x9 then (if x6 ≤ 0 then (some (decide (x6 ≤ 0))) else ((sched_Level_1.f k x6 x154000).bind fun t154 => (if (wrap64 ((wrap64 (x6 + t154)) - x0)) ≥ x6 then (some false) else (sched_Level_2.l0 k x0 (wrap64 ((wrap64 (x6 + t154)) - x0)) x9 (wrap64 (x10 + 1)) x154000)))) else (some (decide (x6 ≤ 0)))
def sched_Level_2.f (k : Nat) (a0 : Int) (a1_0 : Int) (a2_0 : Int) (a3_0_0_0 : Int) : Option (Bool) := sched_Level_2.l0 k a0 a1_0 a2_0 0 a3_0_0_0
theorem sched_Level_2.mono_l : ∀ k, (∀ y0 y1 y2 y3 y4, LeO (sched_Level_2.l0 k y0 y1 y2 y3 y4) (sched_Level_2.l0 (k + 1) y0 y1 y2 y3 y4))
  | 0 => fun _ _ _ _ _ r h => by simp [sched_Level_2.l0] at h
  | k + 1 => by
    have ih0 := sched_Level_2.mono_l k
    · intro y0 y1 y2 y3 y4
      unfold sched_Level_2.l0
      repeat' first
      | (with_reducible exact ih0 _ _ _ _ _)
      | (with_reducible exact sched_Level_1.mono _ _ _)
      | (with_reducible exact LeO.refl _)
      | (with_reducible exact LeO.none _)
      | (with_reducible refine LeO.ite ?_ ?_)
      | (with_reducible refine LeO.bind ?_ (fun _ => ?_))
      | exact ih0 _ _ _ _ _
      | exact sched_Level_1.mono _ _ _
      | exact LeO.none _
      | refine LeO.ite ?_ ?_
      | refine LeO.bind ?_ (fun _ => ?_)
theorem sched_Level_2.mono : ∀ a0 a1 a2 a3 k, LeO (sched_Level_2.f k a0 a1 a2 a3) (sched_Level_2.f (k + 1) a0 a1 a2 a3) := by
  intro a0 a1 a2 a3 k
  have ih0 := sched_Level_2.mono_l k
  unfold sched_Level_2.f
  repeat' first
      | (with_reducible exact ih0 _ _ _ _ _)
      | (with_reducible exact sched_Level_1.mono _ _ _)
      | (with_reducible exact LeO.refl _)
      | (with_reducible exact LeO.none _)
      | (with_reducible refine LeO.ite ?_ ?_)
      | (with_reducible refine LeO.bind ?_ (fun _ => ?_))
      | exact ih0 _ _ _ _ _
      | exact sched_Level_1.mono _ _ _
      | exact LeO.none _
      | refine LeO.ite ?_ ?_
      | refine LeO.bind ?_ (fun _ => ?_)
set_option maxHeartbeats 8000000 in
set_option maxRecDepth 100000 in
theorem sched_Level_2.calls (k : Nat) (a0 : Int) (gc1 : Nat) (a1_0 : Int) (gc2 : Nat) (a2_0 : Int) (gc3 : Nat) (gc3_0_0 : Nat) (a3_0_0_0 : Int) (r : Bool) (w : World) (hgc1 : w.heap[gc1]? = some (.cells #[.int .i64 a1_0] 2 (0, 0))) (hgc2 : w.heap[gc2]? = some (.cells #[.int .i64 a2_0] 3 (0, 0))) (hgc3 : w.heap[gc3]? = some (.cells #[.func (.func 36) #[] #[.pointer (some ⟨gc3_0_0, 0, none⟩)]] 55 (0, 0))) (hgc3_0_0 : w.heap[gc3_0_0]? = some (.cells #[.int .i64 a3_0_0_0] 2 (0, 0))) (h : sched_Level_2.f k a0 a1_0 a2_0 a3_0_0_0 = some r) :
    Calls Try.prog 38 #[.int .i64 a0, .pointer (some ⟨gc1, 0, none⟩), .pointer (some ⟨gc2, 0, none⟩), .pointer (some ⟨gc3, 0, none⟩)] w fun e w' => e = .returned (.bool r) ∧ Below w.heap.size w w' := by
  have BK150 := Aside0.mk hgc1
  clear hgc1
  have BK151 := Aside0.mk hgc2
  clear hgc2
  have BK153 := Aside0.mk hgc3_0_0
  clear hgc3_0_0
  have BK152 := Aside0.mk hgc3
  clear hgc3
  have HB := Aside0.mk (Below.refl w.heap.size w)
  have H : (sched_Level_2.l0 k a0 a1_0 a2_0 0 a3_0_0_0) = some r := h
  clear h
  have H' := Aside0.mk H
  clear H
  have hcz5_0 : w.cell? ⟨gc1, 0, none⟩ = some (.int .i64 a1_0) := (blk_cell BK150.out 0).trans rfl
  have hfz5_0 := blk_frozen BK150.out 0
  have hcz6_0 : w.cell? ⟨gc2, 0, none⟩ = some (.int .i64 a2_0) := (blk_cell BK151.out 0).trans rfl
  have hfz6_0 := blk_frozen BK151.out 0
  go_enter Try.func38, Try.ntmps38
  go_wp2
  go_loopg [6, 10] k (fun kq v6 v10 w' => ∃ (x6_1 : Int) (x10_1 : Int), v6 = .int .i64 x6_1 ∧ v10 = .int .i64 x10_1 ∧ Aside0 (sched_Level_2.l0 kq a0 x6_1 a2_0 x10_1 a3_0_0_0 = some r) ∧ Aside0 (kq ≤ k) ∧ Aside0 (w'.heap[gc1]? = some (.cells #[.int .i64 a1_0] 2 (0, 0))) ∧ Aside0 (w'.heap[gc2]? = some (.cells #[.int .i64 a2_0] 3 (0, 0))) ∧ Aside0 (w'.heap[gc3_0_0]? = some (.cells #[.int .i64 a3_0_0_0] 2 (0, 0))) ∧ Aside0 (w'.heap[gc3]? = some (.cells #[.func (.func 36) #[] #[.pointer (some ⟨gc3_0_0, 0, none⟩)]] 55 (0, 0))) ∧ Aside0 (Below w.heap.size w w'))
  case atStart => exact ⟨(a1_0), (0), (by first | rfl | (simp; done) | (simp [*]; done)), (by first | rfl | (simp; done) | (simp [*]; done)), H', ⟨Nat.le_refl _⟩, ⟨by (with_reducible repeat (first | refine blk_drewN ?_ _ | refine blk_drew ?_ | refine blk_alloc ?_ _)); exact BK150.out⟩, ⟨by (with_reducible repeat (first | refine blk_drewN ?_ _ | refine blk_drew ?_ | refine blk_alloc ?_ _)); exact BK151.out⟩, ⟨by (with_reducible repeat (first | refine blk_drewN ?_ _ | refine blk_drew ?_ | refine blk_alloc ?_ _)); exact BK153.out⟩, ⟨by (with_reducible repeat (first | refine blk_drewN ?_ _ | refine blk_drew ?_ | refine blk_alloc ?_ _)); exact BK152.out⟩, ⟨by repeat (first | (with_reducible first | exact HB.out | apply below_alloc | apply pw_below_drewN | apply below_drew1 | refine below_set ?_ GE150.out | refine below_set ?_ GE151.out | refine below_set ?_ GE153.out | refine below_set ?_ GE152.out) | exact HB.out)⟩⟩
  case round =>
    clear H'
    try clear c1
    try clear c2
    try clear p2
    try clear c3
    try clear hcz5_0
    try clear hcz6_0
    try clear hfz5_0
    try clear hfz6_0
    obtain ⟨x6_1, x10_1, rfl, rfl, HA, HK1, BK150, BK151, BK153, BK152, HB⟩ := hrel
    cases gk with
    | zero => exact absurd HA.out (by simp [sched_Level_2.l0])
    | succ k1 =>
      have H := HA.out
      clear HA
      simp only [sched_Level_2.l0] at H
      by_cases c7 : x10_1 < a2_0
      · rw [if_pos c7] at H
        have c7b0 : decide (x10_1 < a2_0) = true := decide_eq_true c7
        clear c7
        by_cases c8 : x6_1 ≤ 0
        · rw [if_pos c8] at H
          have c8b0 : decide (x6_1 ≤ 0) = true := decide_eq_true c8
          clear c8
          obtain rfl := Option.some.inj H
          go_wp2
          go_ret
          exact ⟨by first | rfl | (simp [errW_none, errW_some] <;> rfl) | (simp [*, errW_none, errW_some] <;> rfl), by repeat (first | (with_reducible first | exact HB.out | apply below_alloc | apply pw_below_drewN | apply below_drew1 | refine below_set ?_ GE150.out | refine below_set ?_ GE151.out | refine below_set ?_ GE153.out | refine below_set ?_ GE152.out) | exact HB.out)⟩
        · rw [if_neg c8] at H
          have c8b0 : decide (x6_1 ≤ 0) = false := decide_eq_false c8
          clear c8
          replace H := Option.bind_eq_some_iff.mp H
          obtain ⟨t154, A90, H⟩ := H
          replace H : (if (wrap64 ((wrap64 (x6_1 + t154)) - a0)) ≥ x6_1 then (some false) else (sched_Level_2.l0 k1 a0 (wrap64 ((wrap64 (x6_1 + t154)) - a0)) a2_0 (wrap64 (x10_1 + 1)) a3_0_0_0)) = some r := H
          have A9 := Aside0.mk A90
          clear A90
          by_cases c10 : (wrap64 ((wrap64 (x6_1 + t154)) - a0)) ≥ x6_1
          · rw [if_pos c10] at H
            have c10b0 : decide (x6_1 ≤ (wrap64 ((wrap64 (x6_1 + t154)) - a0))) = true := decide_eq_true c10
            clear c10
            obtain rfl := Option.some.inj H
            have hcz11_0 : wr.cell? ⟨gc3, 0, none⟩ = some (.func (.func 36) #[] #[.pointer (some ⟨gc3_0_0, 0, none⟩)]) := (blk_cell BK152.out 0).trans rfl
            have hfz11_0 := blk_frozen BK152.out 0
            have hcz12_0 : wr.cell? ⟨gc3_0_0, 0, none⟩ = some (.int .i64 a3_0_0_0) := (blk_cell BK153.out 0).trans rfl
            have hfz12_0 := blk_frozen BK153.out 0
            go_wp2_with (first | (go_at_call 36; (with_reducible refine (sched_Level_1.calls k1 x6_1 gc3_0_0 a3_0_0_0 t154 _ ?side1 A9.out).mono ?_); (case side1 => (with_reducible repeat (first | refine blk_drewN ?_ _ | refine blk_drew ?_ | refine blk_alloc ?_ _)); exact BK153.out); rintro e w13 ⟨rfl, hb⟩; have n0_ := Aside0.mk (blk_below (g := gc1) (o := .cells #[.int .i64 a1_0] 2 (0, 0)) (by (with_reducible repeat (first | refine blk_drewN ?_ _ | refine blk_drew ?_ | refine blk_alloc ?_ _)); exact BK150.out) hb); have n1_ := Aside0.mk (blk_below (g := gc2) (o := .cells #[.int .i64 a2_0] 3 (0, 0)) (by (with_reducible repeat (first | refine blk_drewN ?_ _ | refine blk_drew ?_ | refine blk_alloc ?_ _)); exact BK151.out) hb); have n2_ := Aside0.mk (blk_below (g := gc3_0_0) (o := .cells #[.int .i64 a3_0_0_0] 2 (0, 0)) (by (with_reducible repeat (first | refine blk_drewN ?_ _ | refine blk_drew ?_ | refine blk_alloc ?_ _)); exact BK153.out) hb); have n3_ := Aside0.mk (blk_below (g := gc3) (o := .cells #[.func (.func 36) #[] #[.pointer (some ⟨gc3_0_0, 0, none⟩)]] 55 (0, 0)) (by (with_reducible repeat (first | refine blk_drewN ?_ _ | refine blk_drew ?_ | refine blk_alloc ?_ _)); exact BK152.out) hb); have n4_ := Aside0.mk (below_step (by repeat (first | (with_reducible first | exact HB.out | apply below_alloc | apply pw_below_drewN | apply below_drew1 | refine below_set ?_ GE150.out | refine below_set ?_ GE151.out | refine below_set ?_ GE153.out | refine below_set ?_ GE152.out) | exact HB.out)) hb); clear BK150; clear BK151; clear BK153; clear BK152; clear HB; have BK150 := n0_; have BK151 := n1_; have BK153 := n2_; have BK152 := n3_; have HB := n4_; clear n0_ n1_ n2_ n3_ n4_; (try clear hb); (try clear hb2); (try clear hk); (try clear hi)))
            go_ret
            exact ⟨by first | rfl | (simp [errW_none, errW_some] <;> rfl) | (simp [*, errW_none, errW_some] <;> rfl), by repeat (first | (with_reducible first | exact HB.out | apply below_alloc | apply pw_below_drewN | apply below_drew1 | refine below_set ?_ GE150.out | refine below_set ?_ GE151.out | refine below_set ?_ GE153.out | refine below_set ?_ GE152.out) | exact HB.out)⟩
          · rw [if_neg c10] at H
            have c10b0 : decide (x6_1 ≤ (wrap64 ((wrap64 (x6_1 + t154)) - a0))) = false := decide_eq_false c10
            clear c10
            have H' := Aside0.mk H
            clear H
            have hcz14_0 : wr.cell? ⟨gc3, 0, none⟩ = some (.func (.func 36) #[] #[.pointer (some ⟨gc3_0_0, 0, none⟩)]) := (blk_cell BK152.out 0).trans rfl
            have hfz14_0 := blk_frozen BK152.out 0
            have hcz15_0 : wr.cell? ⟨gc3_0_0, 0, none⟩ = some (.int .i64 a3_0_0_0) := (blk_cell BK153.out 0).trans rfl
            have hfz15_0 := blk_frozen BK153.out 0
            go_wp2_with (first | (go_at_call 36; (with_reducible refine (sched_Level_1.calls k1 x6_1 gc3_0_0 a3_0_0_0 t154 _ ?side1 A9.out).mono ?_); (case side1 => (with_reducible repeat (first | refine blk_drewN ?_ _ | refine blk_drew ?_ | refine blk_alloc ?_ _)); exact BK153.out); rintro e w16 ⟨rfl, hb⟩; have n0_ := Aside0.mk (blk_below (g := gc1) (o := .cells #[.int .i64 a1_0] 2 (0, 0)) (by (with_reducible repeat (first | refine blk_drewN ?_ _ | refine blk_drew ?_ | refine blk_alloc ?_ _)); exact BK150.out) hb); have n1_ := Aside0.mk (blk_below (g := gc2) (o := .cells #[.int .i64 a2_0] 3 (0, 0)) (by (with_reducible repeat (first | refine blk_drewN ?_ _ | refine blk_drew ?_ | refine blk_alloc ?_ _)); exact BK151.out) hb); have n2_ := Aside0.mk (blk_below (g := gc3_0_0) (o := .cells #[.int .i64 a3_0_0_0] 2 (0, 0)) (by (with_reducible repeat (first | refine blk_drewN ?_ _ | refine blk_drew ?_ | refine blk_alloc ?_ _)); exact BK153.out) hb); have n3_ := Aside0.mk (blk_below (g := gc3) (o := .cells #[.func (.func 36) #[] #[.pointer (some ⟨gc3_0_0, 0, none⟩)]] 55 (0, 0)) (by (with_reducible repeat (first | refine blk_drewN ?_ _ | refine blk_drew ?_ | refine blk_alloc ?_ _)); exact BK152.out) hb); have n4_ := Aside0.mk (below_step (by repeat (first | (with_reducible first | exact HB.out | apply below_alloc | apply pw_below_drewN | apply below_drew1 | refine below_set ?_ GE150.out | refine below_set ?_ GE151.out | refine below_set ?_ GE153.out | refine below_set ?_ GE152.out) | exact HB.out)) hb); clear BK150; clear BK151; clear BK153; clear BK152; clear HB; have BK150 := n0_; have BK151 := n1_; have BK153 := n2_; have BK152 := n3_; have HB := n4_; clear n0_ n1_ n2_ n3_ n4_; (try clear hb); (try clear hb2); (try clear hk); (try clear hi)))
            go_roundg k1
            case measure => have := HK1.out; omega
            case rel => exact ⟨(wrap64 ((wrap64 (x6_1 + t154)) - a0)), (wrap64 (x10_1 + 1)), (by first | rfl | (simp; done) | (simp [*]; done)), (by first | rfl | (simp; done) | (simp [*]; done)), H', ⟨by have := HK1.out; omega⟩, ⟨by (with_reducible repeat (first | refine blk_drewN ?_ _ | refine blk_drew ?_ | refine blk_alloc ?_ _)); exact BK150.out⟩, ⟨by (with_reducible repeat (first | refine blk_drewN ?_ _ | refine blk_drew ?_ | refine blk_alloc ?_ _)); exact BK151.out⟩, ⟨by (with_reducible repeat (first | refine blk_drewN ?_ _ | refine blk_drew ?_ | refine blk_alloc ?_ _)); exact BK153.out⟩, ⟨by (with_reducible repeat (first | refine blk_drewN ?_ _ | refine blk_drew ?_ | refine blk_alloc ?_ _)); exact BK152.out⟩, ⟨by repeat (first | (with_reducible first | exact HB.out | apply below_alloc | apply pw_below_drewN | apply below_drew1 | refine below_set ?_ GE150.out | refine below_set ?_ GE151.out | refine below_set ?_ GE153.out | refine below_set ?_ GE152.out) | exact HB.out)⟩⟩
      · rw [if_neg c7] at H
        have c7b0 : decide (x10_1 < a2_0) = false := decide_eq_false c7
        clear c7
        obtain rfl := Option.some.inj H
        go_wp2
        go_ret
        exact ⟨by first | rfl | (simp [errW_none, errW_some] <;> rfl) | (simp [*, errW_none, errW_some] <;> rfl), by repeat (first | (with_reducible first | exact HB.out | apply below_alloc | apply pw_below_drewN | apply below_drew1 | refine below_set ?_ GE150.out | refine below_set ?_ GE151.out | refine below_set ?_ GE153.out | refine below_set ?_ GE152.out) | exact HB.out)⟩

end Go.Proofs.Ytchpeobenlnemaa.S
