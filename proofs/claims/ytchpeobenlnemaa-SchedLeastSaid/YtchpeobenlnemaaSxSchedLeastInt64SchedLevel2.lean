/- Printed by a program of this session out of the translation: what each function called here computes, and that its call comes to just that. Conditions: none beyond those that each theorem names. -/
import Derived.Test.YtchpeobenlnemaaSx0
import Derived.Test.YtchpeobenlnemaaSxSchedLevel2
namespace Go.Proofs.Ytchpeobenlnemaa.S
open Go.RowKit Go.Proofs.YtchpeobenlnemaaW.PrintWords Go.Proofs.YtchpeobenlnemaaW.PrintLast Go.Proofs.YtchpeobenlnemaaW.PrintMore
attribute [local go_sem] max2_int min2_int max_two min_two max_three min_three max_four min_four   -- for this text's walks alone
attribute [local go_sem] Go.Proofs.Ytchpeobenlnemaa.XWalk.cell2
set_option linter.unusedVariables false
set_option linter.unusedSimpArgs false

/-! ### sched_least_int64__sched_Level_2: function 37 -/
def sched_least_int64__sched_Level_2.l0 : Nat → Int → Int → Int → Int → Int → Option (Int)
  | 0, _, _, _, _, _ => none
  | k + 1, x0, x1, x164000, x165000, x167000 => if x0 < x1 then ((sched_Level_2.f k (wrap64 (x0 + (wrap64 (Int.tdiv (wrap64 (x1 - x0)) 2)))) x164000 x165000 x167000).bind fun t167 => (if t167 = true then (sched_least_int64__sched_Level_2.l0 k x0 (wrap64 (x0 + (wrap64 (Int.tdiv (wrap64 (x1 - x0)) 2)))) x164000 x165000 x167000) else (sched_least_int64__sched_Level_2.l0 k (wrap64 ((wrap64 (x0 + (wrap64 (Int.tdiv (wrap64 (x1 - x0)) 2)))) + 1)) x1 x164000 x165000 x167000))) else (some x0)
def sched_least_int64__sched_Level_2.f (k : Nat) (a0 : Int) (a1 : Int) (a2_0_0 : Int) (a2_1_0 : Int) (a2_2_0_0_0 : Int) : Option (Int) := sched_least_int64__sched_Level_2.l0 k a0 a1 a2_0_0 a2_1_0 a2_2_0_0_0
theorem sched_least_int64__sched_Level_2.mono_l : ∀ k, (∀ y0 y1 y2 y3 y4, LeO (sched_least_int64__sched_Level_2.l0 k y0 y1 y2 y3 y4) (sched_least_int64__sched_Level_2.l0 (k + 1) y0 y1 y2 y3 y4))
  | 0 => fun _ _ _ _ _ r h => by simp [sched_least_int64__sched_Level_2.l0] at h
  | k + 1 => by
    have ih0 := sched_least_int64__sched_Level_2.mono_l k
    · intro y0 y1 y2 y3 y4
      unfold sched_least_int64__sched_Level_2.l0
      repeat' first
      | (with_reducible exact ih0 _ _ _ _ _)
      | (with_reducible exact sched_Level_2.mono _ _ _ _ _)
      | (with_reducible exact LeO.refl _)
      | (with_reducible exact LeO.none _)
      | (with_reducible refine LeO.ite ?_ ?_)
      | (with_reducible refine LeO.bind ?_ (fun _ => ?_))
      | exact ih0 _ _ _ _ _
      | exact sched_Level_2.mono _ _ _ _ _
      | exact LeO.none _
      | refine LeO.ite ?_ ?_
      | refine LeO.bind ?_ (fun _ => ?_)
theorem sched_least_int64__sched_Level_2.mono : ∀ a0 a1 a2 a3 a4 k, LeO (sched_least_int64__sched_Level_2.f k a0 a1 a2 a3 a4) (sched_least_int64__sched_Level_2.f (k + 1) a0 a1 a2 a3 a4) := by
  intro a0 a1 a2 a3 a4 k
  have ih0 := sched_least_int64__sched_Level_2.mono_l k
  unfold sched_least_int64__sched_Level_2.f
  repeat' first
      | (with_reducible exact ih0 _ _ _ _ _)
      | (with_reducible exact sched_Level_2.mono _ _ _ _ _)
      | (with_reducible exact LeO.refl _)
      | (with_reducible exact LeO.none _)
      | (with_reducible refine LeO.ite ?_ ?_)
      | (with_reducible refine LeO.bind ?_ (fun _ => ?_))
      | exact ih0 _ _ _ _ _
      | exact sched_Level_2.mono _ _ _ _ _
      | exact LeO.none _
      | refine LeO.ite ?_ ?_
      | refine LeO.bind ?_ (fun _ => ?_)
set_option maxHeartbeats 8000000 in
set_option maxRecDepth 100000 in
theorem sched_least_int64__sched_Level_2.calls (k : Nat) (a0 : Int) (a1 : Int) (gc2_0 : Nat) (a2_0_0 : Int) (gc2_1 : Nat) (a2_1_0 : Int) (gc2_2 : Nat) (gc2_2_0_0 : Nat) (a2_2_0_0_0 : Int) (r : Int) (w : World) (hgc2_0 : w.heap[gc2_0]? = some (.cells #[.int .i64 a2_0_0] 2 (0, 0))) (hgc2_1 : w.heap[gc2_1]? = some (.cells #[.int .i64 a2_1_0] 3 (0, 0))) (hgc2_2 : w.heap[gc2_2]? = some (.cells #[.func (.func 36) #[] #[.pointer (some ⟨gc2_2_0_0, 0, none⟩)]] 55 (0, 0))) (hgc2_2_0_0 : w.heap[gc2_2_0_0]? = some (.cells #[.int .i64 a2_2_0_0_0] 2 (0, 0))) (h : sched_least_int64__sched_Level_2.f k a0 a1 a2_0_0 a2_1_0 a2_2_0_0_0 = some r) :
    Calls Try.prog 37 #[.int .i64 a0, .int .i64 a1, .func (.func 38) #[] #[.pointer (some ⟨gc2_0, 0, none⟩), .pointer (some ⟨gc2_1, 0, none⟩), .pointer (some ⟨gc2_2, 0, none⟩)]] w fun e w' => e = .returned (.int .i64 r) ∧ Below w.heap.size w w' := by
  have BK163 := Aside0.mk hgc2_0
  clear hgc2_0
  have BK164 := Aside0.mk hgc2_1
  clear hgc2_1
  have BK166 := Aside0.mk hgc2_2_0_0
  clear hgc2_2_0_0
  have BK165 := Aside0.mk hgc2_2
  clear hgc2_2
  have HB := Aside0.mk (Below.refl w.heap.size w)
  have H : (sched_least_int64__sched_Level_2.l0 k a0 a1 a2_0_0 a2_1_0 a2_2_0_0_0) = some r := h
  clear h
  have H' := Aside0.mk H
  clear H
  go_enter Try.func37, Try.ntmps37
  go_wp2
  go_loopg [0, 1] k (fun kq v0 v1 w' => ∃ (x0_1 : Int) (x1_1 : Int), v0 = .int .i64 x0_1 ∧ v1 = .int .i64 x1_1 ∧ Aside0 (sched_least_int64__sched_Level_2.l0 kq x0_1 x1_1 a2_0_0 a2_1_0 a2_2_0_0_0 = some r) ∧ Aside0 (kq ≤ k) ∧ Aside0 (w'.heap[gc2_0]? = some (.cells #[.int .i64 a2_0_0] 2 (0, 0))) ∧ Aside0 (w'.heap[gc2_1]? = some (.cells #[.int .i64 a2_1_0] 3 (0, 0))) ∧ Aside0 (w'.heap[gc2_2_0_0]? = some (.cells #[.int .i64 a2_2_0_0_0] 2 (0, 0))) ∧ Aside0 (w'.heap[gc2_2]? = some (.cells #[.func (.func 36) #[] #[.pointer (some ⟨gc2_2_0_0, 0, none⟩)]] 55 (0, 0))) ∧ Aside0 (Below w.heap.size w w'))
  case atStart => exact ⟨(a0), (a1), (by first | rfl | (simp; done) | (simp [*]; done)), (by first | rfl | (simp; done) | (simp [*]; done)), H', ⟨Nat.le_refl _⟩, ⟨by (with_reducible repeat (first | refine blk_drewN ?_ _ | refine blk_drew ?_ | refine blk_alloc ?_ _)); exact BK163.out⟩, ⟨by (with_reducible repeat (first | refine blk_drewN ?_ _ | refine blk_drew ?_ | refine blk_alloc ?_ _)); exact BK164.out⟩, ⟨by (with_reducible repeat (first | refine blk_drewN ?_ _ | refine blk_drew ?_ | refine blk_alloc ?_ _)); exact BK166.out⟩, ⟨by (with_reducible repeat (first | refine blk_drewN ?_ _ | refine blk_drew ?_ | refine blk_alloc ?_ _)); exact BK165.out⟩, ⟨by repeat (first | (with_reducible first | exact HB.out | apply below_alloc | apply pw_below_drewN | apply below_drew1 | refine below_set ?_ GE163.out | refine below_set ?_ GE164.out | refine below_set ?_ GE166.out | refine below_set ?_ GE165.out) | exact HB.out)⟩⟩
  case round =>
    clear H'
    try clear c2
    try clear p2
    obtain ⟨x0_1, x1_1, rfl, rfl, HA, HK1, BK163, BK164, BK166, BK165, HB⟩ := hrel
    cases gk with
    | zero => exact absurd HA.out (by simp [sched_least_int64__sched_Level_2.l0])
    | succ k1 =>
      have H := HA.out
      clear HA
      simp only [sched_least_int64__sched_Level_2.l0] at H
      by_cases c4 : x0_1 < x1_1
      · rw [if_pos c4] at H
        have c4b0 : decide (x0_1 < x1_1) = true := decide_eq_true c4
        clear c4
        replace H := Option.bind_eq_some_iff.mp H
        obtain ⟨t167, A50, H⟩ := H
        replace H : (if t167 = true then (sched_least_int64__sched_Level_2.l0 k1 x0_1 (wrap64 (x0_1 + (wrap64 (Int.tdiv (wrap64 (x1_1 - x0_1)) 2)))) a2_0_0 a2_1_0 a2_2_0_0_0) else (sched_least_int64__sched_Level_2.l0 k1 (wrap64 ((wrap64 (x0_1 + (wrap64 (Int.tdiv (wrap64 (x1_1 - x0_1)) 2)))) + 1)) x1_1 a2_0_0 a2_1_0 a2_2_0_0_0)) = some r := H
        have A5 := Aside0.mk A50
        clear A50
        by_cases c6 : t167 = true
        · subst c6
          have H1 : (sched_least_int64__sched_Level_2.l0 k1 x0_1 (wrap64 (x0_1 + (wrap64 (Int.tdiv (wrap64 (x1_1 - x0_1)) 2)))) a2_0_0 a2_1_0 a2_2_0_0_0) = some r := by rw [if_pos rfl] at H; exact H
          clear H
          have H := H1
          clear H1
          have H' := Aside0.mk H
          clear H
          have hcz7_0 : wr.cell? ⟨gc2_0, 0, none⟩ = some (.int .i64 a2_0_0) := (blk_cell BK163.out 0).trans rfl
          have hfz7_0 := blk_frozen BK163.out 0
          have hcz8_0 : wr.cell? ⟨gc2_1, 0, none⟩ = some (.int .i64 a2_1_0) := (blk_cell BK164.out 0).trans rfl
          have hfz8_0 := blk_frozen BK164.out 0
          have hcz9_0 : wr.cell? ⟨gc2_2, 0, none⟩ = some (.func (.func 36) #[] #[.pointer (some ⟨gc2_2_0_0, 0, none⟩)]) := (blk_cell BK165.out 0).trans rfl
          have hfz9_0 := blk_frozen BK165.out 0
          have hcz10_0 : wr.cell? ⟨gc2_2_0_0, 0, none⟩ = some (.int .i64 a2_2_0_0_0) := (blk_cell BK166.out 0).trans rfl
          have hfz10_0 := blk_frozen BK166.out 0
          go_wp2_with (first | (go_at_call 38; (with_reducible refine (sched_Level_2.calls k1 (wrap64 (x0_1 + (wrap64 (Int.tdiv (wrap64 (x1_1 - x0_1)) 2)))) gc2_0 a2_0_0 gc2_1 a2_1_0 gc2_2 gc2_2_0_0 a2_2_0_0_0 true _ ?side1 ?side2 ?side3 ?side4 A5.out).mono ?_); (case side1 => (with_reducible repeat (first | refine blk_drewN ?_ _ | refine blk_drew ?_ | refine blk_alloc ?_ _)); exact BK163.out); (case side2 => (with_reducible repeat (first | refine blk_drewN ?_ _ | refine blk_drew ?_ | refine blk_alloc ?_ _)); exact BK164.out); (case side3 => (with_reducible repeat (first | refine blk_drewN ?_ _ | refine blk_drew ?_ | refine blk_alloc ?_ _)); exact BK165.out); (case side4 => (with_reducible repeat (first | refine blk_drewN ?_ _ | refine blk_drew ?_ | refine blk_alloc ?_ _)); exact BK166.out); rintro e w11 ⟨rfl, hb⟩; have n0_ := Aside0.mk (blk_below (g := gc2_0) (o := .cells #[.int .i64 a2_0_0] 2 (0, 0)) (by (with_reducible repeat (first | refine blk_drewN ?_ _ | refine blk_drew ?_ | refine blk_alloc ?_ _)); exact BK163.out) hb); have n1_ := Aside0.mk (blk_below (g := gc2_1) (o := .cells #[.int .i64 a2_1_0] 3 (0, 0)) (by (with_reducible repeat (first | refine blk_drewN ?_ _ | refine blk_drew ?_ | refine blk_alloc ?_ _)); exact BK164.out) hb); have n2_ := Aside0.mk (blk_below (g := gc2_2_0_0) (o := .cells #[.int .i64 a2_2_0_0_0] 2 (0, 0)) (by (with_reducible repeat (first | refine blk_drewN ?_ _ | refine blk_drew ?_ | refine blk_alloc ?_ _)); exact BK166.out) hb); have n3_ := Aside0.mk (blk_below (g := gc2_2) (o := .cells #[.func (.func 36) #[] #[.pointer (some ⟨gc2_2_0_0, 0, none⟩)]] 55 (0, 0)) (by (with_reducible repeat (first | refine blk_drewN ?_ _ | refine blk_drew ?_ | refine blk_alloc ?_ _)); exact BK165.out) hb); have n4_ := Aside0.mk (below_step (by repeat (first | (with_reducible first | exact HB.out | apply below_alloc | apply pw_below_drewN | apply below_drew1 | refine below_set ?_ GE163.out | refine below_set ?_ GE164.out | refine below_set ?_ GE166.out | refine below_set ?_ GE165.out) | exact HB.out)) hb); clear BK163; clear BK164; clear BK166; clear BK165; clear HB; have BK163 := n0_; have BK164 := n1_; have BK166 := n2_; have BK165 := n3_; have HB := n4_; clear n0_ n1_ n2_ n3_ n4_; (try clear hb); (try clear hb2); (try clear hk); (try clear hi)))
          go_roundg k1
          case measure => have := HK1.out; omega
          case rel => exact ⟨(x0_1), (wrap64 (x0_1 + (wrap64 (Int.tdiv (wrap64 (x1_1 - x0_1)) 2)))), (by first | rfl | (simp; done) | (simp [*]; done)), (by first | rfl | (simp; done) | (simp [*]; done)), H', ⟨by have := HK1.out; omega⟩, ⟨by (with_reducible repeat (first | refine blk_drewN ?_ _ | refine blk_drew ?_ | refine blk_alloc ?_ _)); exact BK163.out⟩, ⟨by (with_reducible repeat (first | refine blk_drewN ?_ _ | refine blk_drew ?_ | refine blk_alloc ?_ _)); exact BK164.out⟩, ⟨by (with_reducible repeat (first | refine blk_drewN ?_ _ | refine blk_drew ?_ | refine blk_alloc ?_ _)); exact BK166.out⟩, ⟨by (with_reducible repeat (first | refine blk_drewN ?_ _ | refine blk_drew ?_ | refine blk_alloc ?_ _)); exact BK165.out⟩, ⟨by repeat (first | (with_reducible first | exact HB.out | apply below_alloc | apply pw_below_drewN | apply below_drew1 | refine below_set ?_ GE163.out | refine below_set ?_ GE164.out | refine below_set ?_ GE166.out | refine below_set ?_ GE165.out) | exact HB.out)⟩⟩
        · replace c6 := Bool.eq_false_iff.mpr c6
          subst c6
          have H1 : (sched_least_int64__sched_Level_2.l0 k1 (wrap64 ((wrap64 (x0_1 + (wrap64 (Int.tdiv (wrap64 (x1_1 - x0_1)) 2)))) + 1)) x1_1 a2_0_0 a2_1_0 a2_2_0_0_0) = some r := by rw [if_neg (show ¬ (false = true) by decide)] at H; exact H
          clear H
          have H := H1
          clear H1
          have H' := Aside0.mk H
          clear H
          have hcz12_0 : wr.cell? ⟨gc2_0, 0, none⟩ = some (.int .i64 a2_0_0) := (blk_cell BK163.out 0).trans rfl
          have hfz12_0 := blk_frozen BK163.out 0
          have hcz13_0 : wr.cell? ⟨gc2_1, 0, none⟩ = some (.int .i64 a2_1_0) := (blk_cell BK164.out 0).trans rfl
          have hfz13_0 := blk_frozen BK164.out 0
          have hcz14_0 : wr.cell? ⟨gc2_2, 0, none⟩ = some (.func (.func 36) #[] #[.pointer (some ⟨gc2_2_0_0, 0, none⟩)]) := (blk_cell BK165.out 0).trans rfl
          have hfz14_0 := blk_frozen BK165.out 0
          have hcz15_0 : wr.cell? ⟨gc2_2_0_0, 0, none⟩ = some (.int .i64 a2_2_0_0_0) := (blk_cell BK166.out 0).trans rfl
          have hfz15_0 := blk_frozen BK166.out 0
          go_wp2_with (first | (go_at_call 38; (with_reducible refine (sched_Level_2.calls k1 (wrap64 (x0_1 + (wrap64 (Int.tdiv (wrap64 (x1_1 - x0_1)) 2)))) gc2_0 a2_0_0 gc2_1 a2_1_0 gc2_2 gc2_2_0_0 a2_2_0_0_0 false _ ?side1 ?side2 ?side3 ?side4 A5.out).mono ?_); (case side1 => (with_reducible repeat (first | refine blk_drewN ?_ _ | refine blk_drew ?_ | refine blk_alloc ?_ _)); exact BK163.out); (case side2 => (with_reducible repeat (first | refine blk_drewN ?_ _ | refine blk_drew ?_ | refine blk_alloc ?_ _)); exact BK164.out); (case side3 => (with_reducible repeat (first | refine blk_drewN ?_ _ | refine blk_drew ?_ | refine blk_alloc ?_ _)); exact BK165.out); (case side4 => (with_reducible repeat (first | refine blk_drewN ?_ _ | refine blk_drew ?_ | refine blk_alloc ?_ _)); exact BK166.out); rintro e w16 ⟨rfl, hb⟩; have n0_ := Aside0.mk (blk_below (g := gc2_0) (o := .cells #[.int .i64 a2_0_0] 2 (0, 0)) (by (with_reducible repeat (first | refine blk_drewN ?_ _ | refine blk_drew ?_ | refine blk_alloc ?_ _)); exact BK163.out) hb); have n1_ := Aside0.mk (blk_below (g := gc2_1) (o := .cells #[.int .i64 a2_1_0] 3 (0, 0)) (by (with_reducible repeat (first | refine blk_drewN ?_ _ | refine blk_drew ?_ | refine blk_alloc ?_ _)); exact BK164.out) hb); have n2_ := Aside0.mk (blk_below (g := gc2_2_0_0) (o := .cells #[.int .i64 a2_2_0_0_0] 2 (0, 0)) (by (with_reducible repeat (first | refine blk_drewN ?_ _ | refine blk_drew ?_ | refine blk_alloc ?_ _)); exact BK166.out) hb); have n3_ := Aside0.mk (blk_below (g := gc2_2) (o := .cells #[.func (.func 36) #[] #[.pointer (some ⟨gc2_2_0_0, 0, none⟩)]] 55 (0, 0)) (by (with_reducible repeat (first | refine blk_drewN ?_ _ | refine blk_drew ?_ | refine blk_alloc ?_ _)); exact BK165.out) hb); have n4_ := Aside0.mk (below_step (by repeat (first | (with_reducible first | exact HB.out | apply below_alloc | apply pw_below_drewN | apply below_drew1 | refine below_set ?_ GE163.out | refine below_set ?_ GE164.out | refine below_set ?_ GE166.out | refine below_set ?_ GE165.out) | exact HB.out)) hb); clear BK163; clear BK164; clear BK166; clear BK165; clear HB; have BK163 := n0_; have BK164 := n1_; have BK166 := n2_; have BK165 := n3_; have HB := n4_; clear n0_ n1_ n2_ n3_ n4_; (try clear hb); (try clear hb2); (try clear hk); (try clear hi)))
          go_roundg k1
          case measure => have := HK1.out; omega
          case rel => exact ⟨(wrap64 ((wrap64 (x0_1 + (wrap64 (Int.tdiv (wrap64 (x1_1 - x0_1)) 2)))) + 1)), (x1_1), (by first | rfl | (simp; done) | (simp [*]; done)), (by first | rfl | (simp; done) | (simp [*]; done)), H', ⟨by have := HK1.out; omega⟩, ⟨by (with_reducible repeat (first | refine blk_drewN ?_ _ | refine blk_drew ?_ | refine blk_alloc ?_ _)); exact BK163.out⟩, ⟨by (with_reducible repeat (first | refine blk_drewN ?_ _ | refine blk_drew ?_ | refine blk_alloc ?_ _)); exact BK164.out⟩, ⟨by (with_reducible repeat (first | refine blk_drewN ?_ _ | refine blk_drew ?_ | refine blk_alloc ?_ _)); exact BK166.out⟩, ⟨by (with_reducible repeat (first | refine blk_drewN ?_ _ | refine blk_drew ?_ | refine blk_alloc ?_ _)); exact BK165.out⟩, ⟨by repeat (first | (with_reducible first | exact HB.out | apply below_alloc | apply pw_below_drewN | apply below_drew1 | refine below_set ?_ GE163.out | refine below_set ?_ GE164.out | refine below_set ?_ GE166.out | refine below_set ?_ GE165.out) | exact HB.out)⟩⟩
      · rw [if_neg c4] at H
        have c4b0 : decide (x0_1 < x1_1) = false := decide_eq_false c4
        clear c4
        obtain rfl := Option.some.inj H
        go_wp2
        go_ret
        exact ⟨by first | rfl | (simp [errW_none, errW_some] <;> rfl) | (simp [*, errW_none, errW_some] <;> rfl), by repeat (first | (with_reducible first | exact HB.out | apply below_alloc | apply pw_below_drewN | apply below_drew1 | refine below_set ?_ GE163.out | refine below_set ?_ GE164.out | refine below_set ?_ GE166.out | refine below_set ?_ GE165.out) | exact HB.out)⟩

end Go.Proofs.Ytchpeobenlnemaa.S
