/- What a function computes, and that its call comes to that. Conditions: as each theorem names. -/
import Derived.Test.YtjgleaakgbnjgaaSx0
import Derived.Test.YtjgleaakgbnjgaaSxMathBitsDiv64
import Derived.Test.YtjgleaakgbnjgaaSxWideQuotientFloor
import Derived.Test.YtjgleaakgbnjgaaSxWideQuotientNear
import Derived.Test.YtjgleaakgbnjgaaSxWideTurned
import Derived.Test.YtjgleaakgbnjgaaSxMathBitsAdd64
set_option linter.unusedSimpArgs false
set_option linter.unusedVariables false
namespace Go.Proofs.Ytjgleaakgbnjgaa.S
open Go.RowKit Go.Proofs.YtjgleaakgbnjgaaW.PrintWords Go.Proofs.YtjgleaakgbnjgaaW.PrintLast Go.Proofs.YtjgleaakgbnjgaaW.PrintMore
attribute [local go_sem] max2_int min2_int max_two min_two max_three min_three max_four min_four
attribute [local go_sem] XWalk.cell2
mutual
def wide_Div.j0 : Nat → Int → Int → Bool → Int → Int → Option (Int × Int)
 | 0, _, _, _, _, _ => none
 | k + 1, x1, x2, x15, x118000, x118001 => if x15 = true then (some (0, 2)) else (if x1 = 0 then (some (0, 4)) else (if x118000 < 0 then ((wide_turned.f x118000 x118001).bind fun bt120 => (wide_Div.j1 k x1 x2 (IntKind.u64.wrap (x1)) x118000 x118001 bt120.1 bt120.2)) else (wide_Div.j1 k x1 x2 (IntKind.u64.wrap (x1)) x118000 x118001 x118000 x118001)))
def wide_Div.j1 : Nat → Int → Int → Int → Int → Int → Int → Int → Option (Int × Int)
 | 0, _, _, _, _, _, _, _ => none
 | k + 1, x1, x2, x10, x118000, x118001, x120000, x120001 => if x1 < 0 then (wide_Div.j2 k x1 x2 (IntKind.u64.wrap (-x10)) x118000 x118001 x120000 x120001) else (wide_Div.j2 k x1 x2 x10 x118000 x118001 x120000 x120001)
def wide_Div.j2 : Nat → Int → Int → Int → Int → Int → Int → Int → Option (Int × Int)
 | 0, _, _, _, _, _, _, _ => none
 | k + 1, x1, x2, x10, x118000, x118001, x120000, x120001 => if x10 = 0 then (none) else ((math_bits_Div64.f k (Int.tmod (IntKind.u64.wrap (x120000)) x10) x120001 x10).bind fun bt123 => (if x2 = 0 then none else (if x2 = 1 then ((wide_quotient_near.f (IntKind.u64.wrap (Int.tdiv (IntKind.u64.wrap (x120000)) x10)) bt123.1 bt123.2 x10 (!((decide (x118000 < 0)) == (decide (x1 < 0))))).bind fun t126 => (if t126 = true then (if 0 ≤ bt123.1 then (wide_Div.j5 k (IntKind.u64.wrap ((IntKind.u64.wrap (Int.tdiv (IntKind.u64.wrap (x120000)) x10)) + (XWalk.c64 bt123.1 1 0))) (XWalk.s64 bt123.1 1 0) bt123.2 x10 (!((decide (x118000 < 0)) == (decide (x1 < 0))))) else (none)) else (wide_Div.j5 k (IntKind.u64.wrap (Int.tdiv (IntKind.u64.wrap (x120000)) x10)) bt123.1 bt123.2 x10 (!((decide (x118000 < 0)) == (decide (x1 < 0))))))) else (none))))
def wide_Div.j3 : Nat → Int → Int → Int → Int → Bool → Option (Int × Int)
 | 0, _, _, _, _, _ => none
 | k + 1, x123000, x123001, x123002, x123003, x123004 => if x123000 > 0 then (some (0, 3)) else (if x123004 = true then (wide_Div.j4 k (decide (x123001 ≤ 9223372036854775808)) x123000 x123001 x123002 x123003 x123004) else (wide_Div.j4 k false x123000 x123001 x123002 x123003 x123004))
def wide_Div.j4 : Nat → Bool → Int → Int → Int → Int → Bool → Option (Int × Int)
 | 0, _, _, _, _, _, _ => none
 | k + 1, x90, x123000, x123001, x123002, x123003, x123004 => if x90 = true then (some (wrap64 (IntKind.u64.wrap (-x123001)), 0)) else (if x123004 = true then (some (0, 3)) else (if x123001 < 9223372036854775808 then (some (wrap64 (x123001), 0)) else (some (0, 3))))
def wide_Div.j5 : Nat → Int → Int → Int → Int → Bool → Option (Int × Int)
 | 0, _, _, _, _, _ => none
 | k + 1, x123000, x123001, x123002, x123003, x123004 => if x123000 > 0 then (some (0, 3)) else (if x123004 = true then (wide_Div.j6 k (decide (x123001 ≤ 9223372036854775808)) x123000 x123001 x123002 x123003 x123004) else (wide_Div.j6 k false x123000 x123001 x123002 x123003 x123004))
def wide_Div.j6 : Nat → Bool → Int → Int → Int → Int → Bool → Option (Int × Int)
 | 0, _, _, _, _, _, _ => none
 | k + 1, x90, x123000, x123001, x123002, x123003, x123004 => if x90 = true then (some (wrap64 (IntKind.u64.wrap (-x123001)), 0)) else (if x123004 = true then (some (0, 3)) else (if x123001 < 9223372036854775808 then (some (wrap64 (x123001), 0)) else (some (0, 3))))
end
def wide_Div.f (k : Nat) (a0_0 : Int) (a0_1 : Int) (a1 : Int) (a2 : Int) : Option (Int × Int) := if a2 < 0 then (wide_Div.j0 k a1 a2 true a0_0 a0_1) else (wide_Div.j0 k a1 a2 (decide (a2 ≥ 2)) a0_0 a0_1)
def wide_Div.T12 : Bool × List (List Nat × List Nat) := (true, [([], []), ([0], [0]), ([1], [1]), ([], []), ([2, 3], [2, 3]), ([], []), ([5], [5]), ([6], [6]), ([], []), ([7, 8], [7, 8]), ([0, 1, 2, 3, 4], []), ([10, 4, 0, 1, 2, 3, 4], [4, 10]), ([0, 1, 2, 3, 4, 5, 6, 7, 8, 9, 10, 11], []), ([12, 9, 11, 0, 1, 2, 3, 4, 5, 6, 7, 8, 9, 10, 11], [9, 12])])
def wide_Div.B12 : List Nat := [0, 1, 3, 0, 15, 0, 32, 96, 0, 480, 31, 1055, 4095, 8191]
theorem wide_Div.tab12 : rtab .any (opsOf Try.f90 12) = wide_Div.T12 := by kernel_rfl
theorem wide_Div.bits12 : waitsOk wide_Div.T12.2 wide_Div.B12 = true := by kernel_rfl
set_option maxHeartbeats 8000000 in
set_option maxRecDepth 100000 in
theorem wide_Div.calls (k : Nat) (a0_0 : Int) (a0_1 : Int) (a1 : Int) (a2 : Int) (r1 : Int) (r2 : Int) (w : World) (h : wide_Div.f k a0_0 a0_1 a1 a2 = some (r1, r2)) :
  Calls Star.prog 90 #[.agg #[.int .i64 a0_0, .int .u64 a0_1], .int .i64 a1, .int .i64 a2] w fun e w' => e = .returned (.tuple #[.int .i64 r1, .int .i64 r2]) ∧ Below w.heap.size w w' := by
 have hu127 := Star.underlying127
 have hu132 := Star.underlying132
 have HB := Aside0.mk (Below.refl w.heap.size w)
 have H : (if a2 < 0 then (wide_Div.j0 k a1 a2 true a0_0 a0_1) else (wide_Div.j0 k a1 a2 (decide (a2 ≥ 2)) a0_0 a0_1)) = some (r1, r2) := h
 clear h
 have HC4 := Aside0.mk H
 clear H
 go_enter Star.func90, Try.ntmps90
 go_upto_region 2 with (first | ((with_reducible refine gate_dst (N := 3) rfl ?_); refine box_event ?hg (N := 3) ?hd (cs := #[.int .i64 a0_0, .int .u64 a0_1]) (t := 127) ?hr ?_; (case hd => rfl); (case hg => rfl); (case hr => first | (go_simp; done) | (go_simp; rfl)); intro gb117 hg w5 hbox hb; have n0_ := Aside0.mk (below_step (by repeat (first | (with_reducible first | exact HB.out | apply below_alloc | apply pw_below_drewN | apply below_drew1) | exact HB.out)) hb); have n1_ := Aside0.mk (hbox); have n2_ := Aside0.mk ((by rw [hg]; exact (below_size (by repeat (first | (with_reducible first | exact HB.out | apply below_alloc | apply pw_below_drewN | apply below_drew1) | exact HB.out))) : w.heap.size ≤ gb117)); have n3_ := Aside0.mk ((by rw [hg]; exact (below_size (by repeat (first | (with_reducible first | exact HB.out | apply below_alloc | apply pw_below_drewN | apply below_drew1) | exact HB.out))) : w.heap.size ≤ gb117)); clear HB; have HB := n0_; have BK117 := n1_; have GW117 := n2_; have GE117 := n3_; clear n0_ n1_ n2_ n3_; clear hb hbox hg) | ((with_reducible refine gate_dst (N := 8) rfl ?_); refine box_event ?hg (N := 8) ?hd (cs := #[Value.nilFunc, Value.nilFunc]) (t := 133) ?hr ?_; (case hd => rfl); (case hg => rfl); (case hr => first | (go_simp; done) | (go_simp; rfl)); intro gb118 hg w6 hbox hb; have n0_ := Aside0.mk (blk_below (g := gb117) (o := .cells #[.int .i64 a0_0, .int .u64 a0_1] 127 (0, 0)) (by (with_reducible repeat (first | refine blk_drewN ?_ _ | refine blk_drew ?_ | refine blk_alloc ?_ _)); exact BK117.out) hb); have n1_ := Aside0.mk (below_step (by repeat (first | (with_reducible first | exact HB.out | apply below_alloc | apply pw_below_drewN | apply below_drew1 | refine below_set ?_ GE117.out) | exact HB.out)) hb); have n2_ := Aside0.mk (hbox); have n3_ := Aside0.mk ((by rw [hg]; exact (below_size (by repeat (first | (with_reducible first | exact HB.out | apply below_alloc | apply pw_below_drewN | apply below_drew1 | refine below_set ?_ GE117.out) | exact HB.out))) : w.heap.size ≤ gb118)); have n4_ := Aside0.mk ((by rw [hg]; exact (below_size (by repeat (first | (with_reducible first | exact HB.out | apply below_alloc | apply pw_below_drewN | apply below_drew1 | refine below_set ?_ GE117.out) | exact HB.out))) : w.heap.size ≤ gb118)); have n5_ := Aside0.mk ((by rw [hg]; exact Nat.ne_of_lt (blk_lt (g := gb117) (o := .cells #[.int .i64 a0_0, .int .u64 a0_1] 127 (0, 0)) (by (with_reducible repeat (first | refine blk_drewN ?_ _ | refine blk_drew ?_ | refine blk_alloc ?_ _)); exact BK117.out)) : gb117 ≠ gb118)); have n6_ := Aside0.mk ((by rw [hg]; exact Nat.ne_of_gt (blk_lt (g := gb117) (o := .cells #[.int .i64 a0_0, .int .u64 a0_1] 127 (0, 0)) (by (with_reducible repeat (first | refine blk_drewN ?_ _ | refine blk_drew ?_ | refine blk_alloc ?_ _)); exact BK117.out)) : gb118 ≠ gb117)); clear BK117; clear HB; have BK117 := n0_; have HB := n1_; have BK118 := n2_; have GW118 := n3_; have GE118 := n4_; have NB117_118 := n5_; have NB118_117 := n6_; clear n0_ n1_ n2_ n3_ n4_ n5_ n6_; clear hb hbox hg; have hnb7 := NB118_117.out; have hnc7 := NB117_118.out; have hcz8_0 : w6.cell? ⟨gb118, 0, none⟩ = some (Value.nilFunc) := (blk_cell BK118.out 0).trans rfl; have hcz8_1 : w6.cell? ⟨gb118, 1, none⟩ = some (Value.nilFunc) := (blk_cell BK118.out 1).trans rfl; have hfz8_0 := blk_frozen BK118.out 0; have hfz8_1 := blk_frozen BK118.out 1))
 (try simp only [Act.put, List.setIfInBounds_toArray, List.set_cons_zero, List.set_cons_succ])
 go_cut [15] (fun v15 wc => ∃ (kq : Nat) (x15_3 : Bool), v15 = .bool x15_3 ∧ Aside0 (wide_Div.j0 kq a1 a2 x15_3 a0_0 a0_1 = some (r1, r2)) ∧ Aside0 (kq ≤ k) ∧ Aside0 (wc.heap[gb117]? = some (.cells #[.int .i64 a0_0, .int .u64 a0_1] 127 (0, 0))) ∧ Aside0 (wc.heap[gb118]? = some (.cells #[.func (.func 95) #[] #[], .func (.func 96) #[] #[]] 133 (0, 0))) ∧ Aside0 (Below w.heap.size w wc))
 case first =>
  have H := HC4.out
  clear HC4
  by_cases c9 : a2 < 0
  ·rw [if_pos c9] at H
   have c9b0 : decide (a2 < 0) = true := decide_eq_true c9
   clear c9
   (first | rw [c9b0] | (simp only [i64_w, i32_w]; rw [c9b0]) | skip)
   have H' := Aside0.mk H
   clear H
   go_wp2
   go_meet
   case rel => exact ⟨_, (true), (by first | rfl | (simp; done) | (simp [*]; done)), H', ⟨by first | omega | exact Nat.le_refl _⟩, ⟨by (with_reducible repeat (first | refine blk_drewN ?_ _ | refine blk_drew ?_ | refine blk_alloc ?_ _)); refine blk_far ?_ NB117_118.out _; (with_reducible repeat (first | refine blk_drewN ?_ _ | refine blk_drew ?_ | refine blk_alloc ?_ _)); refine blk_far ?_ NB117_118.out _; (with_reducible repeat (first | refine blk_drewN ?_ _ | refine blk_drew ?_ | refine blk_alloc ?_ _)); exact BK117.out⟩, ⟨by (with_reducible repeat (first | refine blk_drewN ?_ _ | refine blk_drew ?_ | refine blk_alloc ?_ _)); refine blk_put (cs := #[.func (.func 95) #[] #[], Value.nilFunc]) ?_ 1 _ rfl; (with_reducible repeat (first | refine blk_drewN ?_ _ | refine blk_drew ?_ | refine blk_alloc ?_ _)); refine blk_put (cs := #[Value.nilFunc, Value.nilFunc]) ?_ 0 _ rfl; (with_reducible repeat (first | refine blk_drewN ?_ _ | refine blk_drew ?_ | refine blk_alloc ?_ _)); exact BK118.out⟩, ⟨by repeat (first | (with_reducible first | exact HB.out | apply below_alloc | apply pw_below_drewN | apply below_drew1 | refine below_set ?_ GE117.out | refine below_set ?_ GE118.out) | exact HB.out)⟩⟩
  ·rw [if_neg c9] at H
   have c9b0 : decide (a2 < 0) = false := decide_eq_false c9
   clear c9
   (first | rw [c9b0] | (simp only [i64_w, i32_w]; rw [c9b0]) | skip)
   have H' := Aside0.mk H
   clear H
   go_wp2
   go_meet
   case rel => exact ⟨_, (decide (a2 ≥ 2)), (by first | rfl | (simp; done) | (simp [*]; done)), H', ⟨by first | omega | exact Nat.le_refl _⟩, ⟨by (with_reducible repeat (first | refine blk_drewN ?_ _ | refine blk_drew ?_ | refine blk_alloc ?_ _)); refine blk_far ?_ NB117_118.out _; (with_reducible repeat (first | refine blk_drewN ?_ _ | refine blk_drew ?_ | refine blk_alloc ?_ _)); refine blk_far ?_ NB117_118.out _; (with_reducible repeat (first | refine blk_drewN ?_ _ | refine blk_drew ?_ | refine blk_alloc ?_ _)); exact BK117.out⟩, ⟨by (with_reducible repeat (first | refine blk_drewN ?_ _ | refine blk_drew ?_ | refine blk_alloc ?_ _)); refine blk_put (cs := #[.func (.func 95) #[] #[], Value.nilFunc]) ?_ 1 _ rfl; (with_reducible repeat (first | refine blk_drewN ?_ _ | refine blk_drew ?_ | refine blk_alloc ?_ _)); refine blk_put (cs := #[Value.nilFunc, Value.nilFunc]) ?_ 0 _ rfl; (with_reducible repeat (first | refine blk_drewN ?_ _ | refine blk_drew ?_ | refine blk_alloc ?_ _)); exact BK118.out⟩, ⟨by repeat (first | (with_reducible first | exact HB.out | apply below_alloc | apply pw_below_drewN | apply below_drew1 | refine below_set ?_ GE117.out | refine below_set ?_ GE118.out) | exact HB.out)⟩⟩
 case rest =>
  clear HC4
  try clear p2; try clear c7; try clear c9; try clear c9b0; try clear hcz8_0; try clear hcz8_1; try clear hfz8_0; try clear hfz8_1
  obtain ⟨kq, x15_3, rfl, HA, HJ3, BK117, BK118, HB⟩ := hcut
  cases kq with
  | zero => exact absurd HA.out (by simp [wide_Div.j0])
  | succ kj3 =>
   have H := HA.out
   clear HA
   simp only [wide_Div.j0] at H
   by_cases c10 : x15_3 = true
   ·subst c10
    have H1 : (some (0, 2)) = some (r1, r2) := by rw [if_pos rfl] at H; exact H
    clear H
    have H := H1
    clear H1
    simp only [Option.some.injEq, Prod.mk.injEq] at H
    obtain ⟨rfl, rfl⟩ := H
    go_wp2
    go_ret2
    exact ⟨by first | rfl | (simp [errW_none, errW_some] <;> rfl) | (simp [*, errW_none, errW_some] <;> rfl), by repeat (first | (with_reducible first | exact HB.out | apply below_alloc | apply pw_below_drewN | apply below_drew1 | refine below_set ?_ GE117.out | refine below_set ?_ GE118.out) | exact HB.out)⟩
   ·replace c10 := Bool.eq_false_iff.mpr c10
    subst c10
    have H1 : (if a1 = 0 then (some (0, 4)) else (if a0_0 < 0 then ((wide_turned.f a0_0 a0_1).bind fun bt120 => (wide_Div.j1 kj3 a1 a2 (IntKind.u64.wrap (a1)) a0_0 a0_1 bt120.1 bt120.2)) else (wide_Div.j1 kj3 a1 a2 (IntKind.u64.wrap (a1)) a0_0 a0_1 a0_0 a0_1))) = some (r1, r2) := by rw [if_neg (show ¬ (false = true) by decide)] at H; exact H
    clear H
    have H := H1
    clear H1
    by_cases c11 : a1 = 0
    ·rw [if_pos c11] at H
     have c11b0 : (a1 == 0) = true := beq_iff_eq.mpr c11
     have c11b1 : (a1 != 0) = false := bne_eq_false_iff_eq.mpr c11
     clear c11
     simp only [Option.some.injEq, Prod.mk.injEq] at H
     obtain ⟨rfl, rfl⟩ := H
     go_wp2
     go_ret2
     exact ⟨by first | rfl | (simp [errW_none, errW_some] <;> rfl) | (simp [*, errW_none, errW_some] <;> rfl), by repeat (first | (with_reducible first | exact HB.out | apply below_alloc | apply pw_below_drewN | apply below_drew1 | refine below_set ?_ GE117.out | refine below_set ?_ GE118.out) | exact HB.out)⟩
    ·rw [if_neg c11] at H
     have c11b0 : (a1 == 0) = false := beq_eq_false_iff_ne.mpr c11
     have c11b1 : (a1 != 0) = true := bne_iff_ne.mpr c11
     have HC12 := Aside0.mk H
     clear H
     have hnb13 := NB117_118.out
     have hnc13 := NB118_117.out
     have hcz14_0 : wc.cell? ⟨gb117, 0, none⟩ = some (.int .i64 a0_0) := (blk_cell BK117.out 0).trans rfl
     have hcz14_1 : wc.cell? ⟨gb117, 1, none⟩ = some (.int .u64 a0_1) := (blk_cell BK117.out 1).trans rfl
     have hfz14_0 := blk_frozen BK117.out 0
     have hfz14_1 := blk_frozen BK117.out 1
     go_upto_if 30 with (first | ((with_reducible refine gate_dst (N := 9) rfl ?_); refine box_event ?hg (N := 9) ?hd (cs := #[.int .i64 0, .int .u64 0]) (t := 127) ?hr ?_; (case hd => rfl); (case hg => rfl); (case hr => first | (go_simp; done) | (go_simp; rfl)); intro gb119 hg w15 hbox hb; have n0_ := Aside0.mk (blk_below (g := gb117) (o := .cells #[.int .i64 a0_0, .int .u64 a0_1] 127 (0, 0)) (by (with_reducible repeat (first | refine blk_drewN ?_ _ | refine blk_drew ?_ | refine blk_alloc ?_ _)); exact BK117.out) hb); have n1_ := Aside0.mk (blk_below (g := gb118) (o := .cells #[.func (.func 95) #[] #[], .func (.func 96) #[] #[]] 133 (0, 0)) (by (with_reducible repeat (first | refine blk_drewN ?_ _ | refine blk_drew ?_ | refine blk_alloc ?_ _)); exact BK118.out) hb); have n2_ := Aside0.mk (below_step (by repeat (first | (with_reducible first | exact HB.out | apply below_alloc | apply pw_below_drewN | apply below_drew1 | refine below_set ?_ GE117.out | refine below_set ?_ GE118.out) | exact HB.out)) hb); have n3_ := Aside0.mk (hbox); have n4_ := Aside0.mk ((by rw [hg]; exact (below_size (by repeat (first | (with_reducible first | exact HB.out | apply below_alloc | apply pw_below_drewN | apply below_drew1 | refine below_set ?_ GE117.out | refine below_set ?_ GE118.out) | exact HB.out))) : w.heap.size ≤ gb119)); have n5_ := Aside0.mk ((by rw [hg]; exact (below_size (by repeat (first | (with_reducible first | exact HB.out | apply below_alloc | apply pw_below_drewN | apply below_drew1 | refine below_set ?_ GE117.out | refine below_set ?_ GE118.out) | exact HB.out))) : w.heap.size ≤ gb119)); have n6_ := Aside0.mk ((by rw [hg]; exact Nat.ne_of_lt (blk_lt (g := gb117) (o := .cells #[.int .i64 a0_0, .int .u64 a0_1] 127 (0, 0)) (by (with_reducible repeat (first | refine blk_drewN ?_ _ | refine blk_drew ?_ | refine blk_alloc ?_ _)); exact BK117.out)) : gb117 ≠ gb119)); have n7_ := Aside0.mk ((by rw [hg]; exact Nat.ne_of_gt (blk_lt (g := gb117) (o := .cells #[.int .i64 a0_0, .int .u64 a0_1] 127 (0, 0)) (by (with_reducible repeat (first | refine blk_drewN ?_ _ | refine blk_drew ?_ | refine blk_alloc ?_ _)); exact BK117.out)) : gb119 ≠ gb117)); have n8_ := Aside0.mk ((by rw [hg]; exact Nat.ne_of_lt (blk_lt (g := gb118) (o := .cells #[.func (.func 95) #[] #[], .func (.func 96) #[] #[]] 133 (0, 0)) (by (with_reducible repeat (first | refine blk_drewN ?_ _ | refine blk_drew ?_ | refine blk_alloc ?_ _)); exact BK118.out)) : gb118 ≠ gb119)); have n9_ := Aside0.mk ((by rw [hg]; exact Nat.ne_of_gt (blk_lt (g := gb118) (o := .cells #[.func (.func 95) #[] #[], .func (.func 96) #[] #[]] 133 (0, 0)) (by (with_reducible repeat (first | refine blk_drewN ?_ _ | refine blk_drew ?_ | refine blk_alloc ?_ _)); exact BK118.out)) : gb119 ≠ gb118)); clear BK117; clear BK118; clear HB; have BK117 := n0_; have BK118 := n1_; have HB := n2_; have BK119 := n3_; have GW119 := n4_; have GE119 := n5_; have NB117_119 := n6_; have NB119_117 := n7_; have NB118_119 := n8_; have NB119_118 := n9_; clear n0_ n1_ n2_ n3_ n4_ n5_ n6_ n7_ n8_ n9_; clear hb hbox hg; have hnb16 := NB119_117.out; have hnc16 := NB117_119.out; have hnb17 := NB119_118.out; have hnc17 := NB118_119.out; have hcz18_0 : w15.cell? ⟨gb119, 0, none⟩ = some (.int .i64 0) := (blk_cell BK119.out 0).trans rfl; have hcz18_1 : w15.cell? ⟨gb119, 1, none⟩ = some (.int .u64 0) := (blk_cell BK119.out 1).trans rfl; have hfz18_0 := blk_frozen BK119.out 0; have hfz18_1 := blk_frozen BK119.out 1; have hcz19_0 : w15.cell? ⟨gb117, 0, none⟩ = some (.int .i64 a0_0) := (blk_cell BK117.out 0).trans rfl; have hcz19_1 : w15.cell? ⟨gb117, 1, none⟩ = some (.int .u64 a0_1) := (blk_cell BK117.out 1).trans rfl; have hfz19_0 := blk_frozen BK117.out 0; have hfz19_1 := blk_frozen BK117.out 1))
     (try simp only [Act.put, List.setIfInBounds_toArray, List.set_cons_zero, List.set_cons_succ])
     go_cut [] (fun wc => ∃ (kq : Nat) (x120000_11 : Int) (x120001_11 : Int), Aside0 (wide_Div.j1 kq a1 a2 (IntKind.u64.wrap (a1)) a0_0 a0_1 x120000_11 x120001_11 = some (r1, r2)) ∧ Aside0 (kq ≤ kj3) ∧ Aside0 (wc.heap[gb117]? = some (.cells #[.int .i64 a0_0, .int .u64 a0_1] 127 (0, 0))) ∧ Aside0 (wc.heap[gb118]? = some (.cells #[.func (.func 95) #[] #[], .func (.func 96) #[] #[]] 133 (0, 0))) ∧ Aside0 (wc.heap[gb119]? = some (.cells #[.int .i64 x120000_11, .int .u64 x120001_11] 127 (0, 0))) ∧ Aside0 (Below w.heap.size w wc))
     case first =>
      have H := HC12.out
      clear HC12
      by_cases c20 : a0_0 < 0
      ·rw [if_pos c20] at H
       have c20b0 : decide (a0_0 < 0) = true := decide_eq_true c20
       clear c20
       (first | rw [c20b0] | (simp only [i64_w, i32_w]; rw [c20b0]) | skip)
       replace H := Option.bind_eq_some_iff.mp H
       obtain ⟨⟨t120, t121⟩, A210, H⟩ := H
       replace H : (wide_Div.j1 kj3 a1 a2 (IntKind.u64.wrap (a1)) a0_0 a0_1 t120 t121) = some (r1, r2) := H
       have A21 := Aside0.mk A210
       clear A210
       have H' := Aside0.mk H
       clear H
       have hnb22 := NB117_118.out
       have hnc22 := NB118_117.out
       have hnb23 := NB117_119.out
       have hnc23 := NB119_117.out
       have hcz24_0 : w15.cell? ⟨gb117, 0, none⟩ = some (.int .i64 a0_0) := (blk_cell BK117.out 0).trans rfl
       have hcz24_1 : w15.cell? ⟨gb117, 1, none⟩ = some (.int .u64 a0_1) := (blk_cell BK117.out 1).trans rfl
       have hfz24_0 := blk_frozen BK117.out 0
       have hfz24_1 := blk_frozen BK117.out 1
       go_wp2_with (first | ((with_reducible refine gate_callee (f := 97) rfl ?_); refine goesL_ (some 32) rfl rfl Star.func97 (by kernel_rfl) rfl #[.agg #[.int .i64 a0_0, .int .u64 a0_1]] rfl (by (try simp only [List.map_toArray, List.map_cons, List.map_nil]); first | done | rfl | (simp only [List.length_drop, List.length_take]; rfl)) ?_; (with_reducible refine (wide_turned.calls a0_0 a0_1 t120 t121 _ A21.out).mono ?_); rintro e w25 ⟨rfl, hb⟩; refine ⟨_, rfl, ?_⟩; have n0_ := Aside0.mk (blk_below (g := gb117) (o := .cells #[.int .i64 a0_0, .int .u64 a0_1] 127 (0, 0)) (by (with_reducible repeat (first | refine blk_drewN ?_ _ | refine blk_drew ?_ | refine blk_alloc ?_ _)); refine blk_far ?_ NB117_119.out _; (with_reducible repeat (first | refine blk_drewN ?_ _ | refine blk_drew ?_ | refine blk_alloc ?_ _)); refine blk_far ?_ NB117_119.out _; (with_reducible repeat (first | refine blk_drewN ?_ _ | refine blk_drew ?_ | refine blk_alloc ?_ _)); exact BK117.out) hb); have n1_ := Aside0.mk (blk_below (g := gb118) (o := .cells #[.func (.func 95) #[] #[], .func (.func 96) #[] #[]] 133 (0, 0)) (by (with_reducible repeat (first | refine blk_drewN ?_ _ | refine blk_drew ?_ | refine blk_alloc ?_ _)); refine blk_far ?_ NB118_119.out _; (with_reducible repeat (first | refine blk_drewN ?_ _ | refine blk_drew ?_ | refine blk_alloc ?_ _)); refine blk_far ?_ NB118_119.out _; (with_reducible repeat (first | refine blk_drewN ?_ _ | refine blk_drew ?_ | refine blk_alloc ?_ _)); exact BK118.out) hb); have n2_ := Aside0.mk (blk_below (g := gb119) (o := .cells #[.int .i64 a0_0, .int .u64 a0_1] 127 (0, 0)) (by (with_reducible repeat (first | refine blk_drewN ?_ _ | refine blk_drew ?_ | refine blk_alloc ?_ _)); refine blk_put (cs := #[.int .i64 a0_0, .int .u64 0]) ?_ 1 _ rfl; (with_reducible repeat (first | refine blk_drewN ?_ _ | refine blk_drew ?_ | refine blk_alloc ?_ _)); refine blk_put (cs := #[.int .i64 0, .int .u64 0]) ?_ 0 _ rfl; (with_reducible repeat (first | refine blk_drewN ?_ _ | refine blk_drew ?_ | refine blk_alloc ?_ _)); exact BK119.out) hb); have n3_ := Aside0.mk (below_step (by repeat (first | (with_reducible first | exact HB.out | apply below_alloc | apply pw_below_drewN | apply below_drew1 | refine below_set ?_ GE117.out | refine below_set ?_ GE118.out | refine below_set ?_ GE119.out) | exact HB.out)) hb); clear BK117; clear BK118; clear BK119; clear HB; have BK117 := n0_; have BK118 := n1_; have BK119 := n2_; have HB := n3_; clear n0_ n1_ n2_ n3_; (try clear hb); (try clear hb2); (try clear hk); (try clear hi); have hnb26 := NB119_118.out; have hnc26 := NB118_119.out; have hcz27_0 : w25.cell? ⟨gb119, 0, none⟩ = some (.int .i64 a0_0) := (blk_cell BK119.out 0).trans rfl; have hcz27_1 : w25.cell? ⟨gb119, 1, none⟩ = some (.int .u64 a0_1) := (blk_cell BK119.out 1).trans rfl; have hfz27_0 := blk_frozen BK119.out 0; have hfz27_1 := blk_frozen BK119.out 1))
       go_meet
       case rel => exact ⟨_, (t120), (t121), H', ⟨by have := HJ3.out; first | omega | exact Nat.le_refl _⟩, ⟨by (with_reducible repeat (first | refine blk_drewN ?_ _ | refine blk_drew ?_ | refine blk_alloc ?_ _)); refine blk_far ?_ NB117_119.out _; (with_reducible repeat (first | refine blk_drewN ?_ _ | refine blk_drew ?_ | refine blk_alloc ?_ _)); refine blk_far ?_ NB117_119.out _; (with_reducible repeat (first | refine blk_drewN ?_ _ | refine blk_drew ?_ | refine blk_alloc ?_ _)); exact BK117.out⟩, ⟨by (with_reducible repeat (first | refine blk_drewN ?_ _ | refine blk_drew ?_ | refine blk_alloc ?_ _)); refine blk_far ?_ NB118_119.out _; (with_reducible repeat (first | refine blk_drewN ?_ _ | refine blk_drew ?_ | refine blk_alloc ?_ _)); refine blk_far ?_ NB118_119.out _; (with_reducible repeat (first | refine blk_drewN ?_ _ | refine blk_drew ?_ | refine blk_alloc ?_ _)); exact BK118.out⟩, ⟨by (with_reducible repeat (first | refine blk_drewN ?_ _ | refine blk_drew ?_ | refine blk_alloc ?_ _)); refine blk_put (cs := #[.int .i64 t120, .int .u64 a0_1]) ?_ 1 _ rfl; (with_reducible repeat (first | refine blk_drewN ?_ _ | refine blk_drew ?_ | refine blk_alloc ?_ _)); refine blk_put (cs := #[.int .i64 a0_0, .int .u64 a0_1]) ?_ 0 _ rfl; (with_reducible repeat (first | refine blk_drewN ?_ _ | refine blk_drew ?_ | refine blk_alloc ?_ _)); exact BK119.out⟩, ⟨by repeat (first | (with_reducible first | exact HB.out | apply below_alloc | apply pw_below_drewN | apply below_drew1 | refine below_set ?_ GE117.out | refine below_set ?_ GE118.out | refine below_set ?_ GE119.out) | exact HB.out)⟩⟩
      ·rw [if_neg c20] at H
       have c20b0 : decide (a0_0 < 0) = false := decide_eq_false c20
       clear c20
       (first | rw [c20b0] | (simp only [i64_w, i32_w]; rw [c20b0]) | skip)
       have H' := Aside0.mk H
       clear H
       go_wp2
       go_meet
       case rel => exact ⟨_, (a0_0), (a0_1), H', ⟨by have := HJ3.out; first | omega | exact Nat.le_refl _⟩, ⟨by (with_reducible repeat (first | refine blk_drewN ?_ _ | refine blk_drew ?_ | refine blk_alloc ?_ _)); refine blk_far ?_ NB117_119.out _; (with_reducible repeat (first | refine blk_drewN ?_ _ | refine blk_drew ?_ | refine blk_alloc ?_ _)); refine blk_far ?_ NB117_119.out _; (with_reducible repeat (first | refine blk_drewN ?_ _ | refine blk_drew ?_ | refine blk_alloc ?_ _)); exact BK117.out⟩, ⟨by (with_reducible repeat (first | refine blk_drewN ?_ _ | refine blk_drew ?_ | refine blk_alloc ?_ _)); refine blk_far ?_ NB118_119.out _; (with_reducible repeat (first | refine blk_drewN ?_ _ | refine blk_drew ?_ | refine blk_alloc ?_ _)); refine blk_far ?_ NB118_119.out _; (with_reducible repeat (first | refine blk_drewN ?_ _ | refine blk_drew ?_ | refine blk_alloc ?_ _)); exact BK118.out⟩, ⟨by (with_reducible repeat (first | refine blk_drewN ?_ _ | refine blk_drew ?_ | refine blk_alloc ?_ _)); refine blk_put (cs := #[.int .i64 a0_0, .int .u64 0]) ?_ 1 _ rfl; (with_reducible repeat (first | refine blk_drewN ?_ _ | refine blk_drew ?_ | refine blk_alloc ?_ _)); refine blk_put (cs := #[.int .i64 0, .int .u64 0]) ?_ 0 _ rfl; (with_reducible repeat (first | refine blk_drewN ?_ _ | refine blk_drew ?_ | refine blk_alloc ?_ _)); exact BK119.out⟩, ⟨by repeat (first | (with_reducible first | exact HB.out | apply below_alloc | apply pw_below_drewN | apply below_drew1 | refine below_set ?_ GE117.out | refine below_set ?_ GE118.out | refine below_set ?_ GE119.out) | exact HB.out)⟩⟩
     case rest =>
      clear HC12
      try clear c1; try clear c2; try clear p2; try clear c7; try clear c9; try clear c9b0; try clear c10; try clear c11; try clear c11b0; try clear c11b1; try clear c13; try clear c16; try clear c17; try clear c20; try clear c20b0; try clear c22; try clear c23; try clear c26; try clear hcz14_0; try clear hcz14_1; try clear hcz18_0; try clear hcz18_1; try clear hcz19_0; try clear hcz19_1; try clear hcz24_0; try clear hcz24_1; try clear hcz27_0; try clear hcz27_1; try clear hcz8_0; try clear hcz8_1; try clear hfz14_0; try clear hfz14_1; try clear hfz18_0; try clear hfz18_1; try clear hfz19_0; try clear hfz19_1; try clear hfz24_0; try clear hfz24_1; try clear hfz27_0; try clear hfz27_1; try clear hfz8_0; try clear hfz8_1; try clear p2
      obtain ⟨kq, x120000_11, x120001_11, HA, HJ11, BK117, BK118, BK119, HB⟩ := hcut
      cases kq with
      | zero => exact absurd HA.out (by simp [wide_Div.j1])
      | succ kj11 =>
       have H := HA.out
       clear HA
       simp only [wide_Div.j1] at H
       have HC28 := Aside0.mk H
       clear H
       go_upto_if 34 with (fail)
       go_cut [10] (fun v10 wc => ∃ (kq : Nat) (x10_27 : Int), v10 = .int .u64 x10_27 ∧ Aside0 (wide_Div.j2 kq a1 a2 x10_27 a0_0 a0_1 x120000_11 x120001_11 = some (r1, r2)) ∧ Aside0 (kq ≤ kj11) ∧ Aside0 (wc.heap[gb117]? = some (.cells #[.int .i64 a0_0, .int .u64 a0_1] 127 (0, 0))) ∧ Aside0 (wc.heap[gb118]? = some (.cells #[.func (.func 95) #[] #[], .func (.func 96) #[] #[]] 133 (0, 0))) ∧ Aside0 (wc.heap[gb119]? = some (.cells #[.int .i64 x120000_11, .int .u64 x120001_11] 127 (0, 0))) ∧ Aside0 (Below w.heap.size w wc))
       case first =>
        have H := HC28.out
        clear HC28
        by_cases c29 : a1 < 0
        ·rw [if_pos c29] at H
         have c29b0 : decide (a1 < 0) = true := decide_eq_true c29
         clear c29
         (first | rw [c29b0] | (simp only [i64_w, i32_w]; rw [c29b0]) | skip)
         have H' := Aside0.mk H
         clear H
         go_wp2
         go_meet
         case rel => exact ⟨_, (IntKind.u64.wrap (-(IntKind.u64.wrap (a1)))), (by first | rfl | (simp; done) | (simp [*]; done)), H', ⟨by have := HJ3.out; have := HJ11.out; first | omega | exact Nat.le_refl _⟩, ⟨by (with_reducible repeat (first | refine blk_drewN ?_ _ | refine blk_drew ?_ | refine blk_alloc ?_ _)); exact BK117.out⟩, ⟨by (with_reducible repeat (first | refine blk_drewN ?_ _ | refine blk_drew ?_ | refine blk_alloc ?_ _)); exact BK118.out⟩, ⟨by (with_reducible repeat (first | refine blk_drewN ?_ _ | refine blk_drew ?_ | refine blk_alloc ?_ _)); exact BK119.out⟩, ⟨by repeat (first | (with_reducible first | exact HB.out | apply below_alloc | apply pw_below_drewN | apply below_drew1 | refine below_set ?_ GE117.out | refine below_set ?_ GE118.out | refine below_set ?_ GE119.out) | exact HB.out)⟩⟩
        ·rw [if_neg c29] at H
         have c29b0 : decide (a1 < 0) = false := decide_eq_false c29
         clear c29
         (first | rw [c29b0] | (simp only [i64_w, i32_w]; rw [c29b0]) | skip)
         have H' := Aside0.mk H
         clear H
         go_wp2
         go_meet
         case rel => exact ⟨_, ((IntKind.u64.wrap (a1))), (by first | rfl | (simp; done) | (simp [*]; done)), H', ⟨by have := HJ3.out; have := HJ11.out; first | omega | exact Nat.le_refl _⟩, ⟨by (with_reducible repeat (first | refine blk_drewN ?_ _ | refine blk_drew ?_ | refine blk_alloc ?_ _)); exact BK117.out⟩, ⟨by (with_reducible repeat (first | refine blk_drewN ?_ _ | refine blk_drew ?_ | refine blk_alloc ?_ _)); exact BK118.out⟩, ⟨by (with_reducible repeat (first | refine blk_drewN ?_ _ | refine blk_drew ?_ | refine blk_alloc ?_ _)); exact BK119.out⟩, ⟨by repeat (first | (with_reducible first | exact HB.out | apply below_alloc | apply pw_below_drewN | apply below_drew1 | refine below_set ?_ GE117.out | refine below_set ?_ GE118.out | refine below_set ?_ GE119.out) | exact HB.out)⟩⟩
       case rest =>
        clear HC28
        try clear c1; try clear c2; try clear p2; try clear c7; try clear c9; try clear c9b0; try clear c10; try clear c11; try clear c11b0; try clear c11b1; try clear c13; try clear c16; try clear c17; try clear c20; try clear c20b0; try clear c22; try clear c23; try clear c26; try clear c29; try clear c29b0; try clear hcz14_0; try clear hcz14_1; try clear hcz18_0; try clear hcz18_1; try clear hcz19_0; try clear hcz19_1; try clear hcz24_0; try clear hcz24_1; try clear hcz27_0; try clear hcz27_1; try clear hcz8_0; try clear hcz8_1; try clear hfz14_0; try clear hfz14_1; try clear hfz18_0; try clear hfz18_1; try clear hfz19_0; try clear hfz19_1; try clear hfz24_0; try clear hfz24_1; try clear hfz27_0; try clear hfz27_1; try clear hfz8_0; try clear hfz8_1; try clear p2
        obtain ⟨kq, x10_27, rfl, HA, HJ27, BK117, BK118, BK119, HB⟩ := hcut
        cases kq with
        | zero => exact absurd HA.out (by simp [wide_Div.j2])
        | succ kj27 =>
         have H := HA.out
         clear HA
         simp only [wide_Div.j2] at H
         by_cases c30 : x10_27 = 0
         ·rw [if_pos c30] at H
          exact absurd H (by simp)
         ·rw [if_neg c30] at H
          have c30b0 : (x10_27 == 0) = false := beq_eq_false_iff_ne.mpr c30
          have c30b1 : (x10_27 != 0) = true := bne_iff_ne.mpr c30
          replace H := Option.bind_eq_some_iff.mp H
          obtain ⟨⟨t123, t124⟩, A310, H⟩ := H
          replace H : (if a2 = 0 then none else (if a2 = 1 then ((wide_quotient_near.f (IntKind.u64.wrap (Int.tdiv (IntKind.u64.wrap (x120000_11)) x10_27)) t123 t124 x10_27 (!((decide (a0_0 < 0)) == (decide (a1 < 0))))).bind fun t126 => (if t126 = true then (if 0 ≤ t123 then (wide_Div.j5 kj27 (IntKind.u64.wrap ((IntKind.u64.wrap (Int.tdiv (IntKind.u64.wrap (x120000_11)) x10_27)) + (XWalk.c64 t123 1 0))) (XWalk.s64 t123 1 0) t124 x10_27 (!((decide (a0_0 < 0)) == (decide (a1 < 0))))) else (none)) else (wide_Div.j5 kj27 (IntKind.u64.wrap (Int.tdiv (IntKind.u64.wrap (x120000_11)) x10_27)) t123 t124 x10_27 (!((decide (a0_0 < 0)) == (decide (a1 < 0))))))) else (none))) = some (r1, r2) := H
          have A31 := Aside0.mk A310
          clear A310
          by_cases c32 : a2 = 0
          ·rw [if_pos c32] at H
           cases H
          ·rw [if_neg c32] at H
           have c32b0 : (a2 == 0) = false := beq_eq_false_iff_ne.mpr c32
           have c32b1 : (a2 != 0) = true := bne_iff_ne.mpr c32
           by_cases c104 : a2 = 1
           ·rw [if_pos c104] at H
            have c104b0 : (a2 == 1) = true := beq_iff_eq.mpr c104
            have c104b1 : (a2 != 1) = false := bne_eq_false_iff_eq.mpr c104
            clear c104
            replace H := Option.bind_eq_some_iff.mp H
            obtain ⟨t126, A1050, H⟩ := H
            replace H : (if t126 = true then (if 0 ≤ t123 then (wide_Div.j5 kj27 (IntKind.u64.wrap ((IntKind.u64.wrap (Int.tdiv (IntKind.u64.wrap (x120000_11)) x10_27)) + (XWalk.c64 t123 1 0))) (XWalk.s64 t123 1 0) t124 x10_27 (!((decide (a0_0 < 0)) == (decide (a1 < 0))))) else (none)) else (wide_Div.j5 kj27 (IntKind.u64.wrap (Int.tdiv (IntKind.u64.wrap (x120000_11)) x10_27)) t123 t124 x10_27 (!((decide (a0_0 < 0)) == (decide (a1 < 0)))))) = some (r1, r2) := H
            have A105 := Aside0.mk A1050
            clear A1050
            have HC106 := Aside0.mk H
            clear H
            have hnb107 := NB117_118.out
            have hnc107 := NB118_117.out
            have hnb108 := NB117_119.out
            have hnc108 := NB119_117.out
            have hcz109_0 : wc.cell? ⟨gb117, 0, none⟩ = some (.int .i64 a0_0) := (blk_cell BK117.out 0).trans rfl
            have hcz109_1 : wc.cell? ⟨gb117, 1, none⟩ = some (.int .u64 a0_1) := (blk_cell BK117.out 1).trans rfl
            have hfz109_0 := blk_frozen BK117.out 0
            have hfz109_1 := blk_frozen BK117.out 1
            try go_wp2_with (first | ((with_reducible refine gate_dst (N := 11) rfl ?_); refine box_event ?hg (N := 11) ?hd (cs := #[.int .u64 0, .int .u64 0, .int .u64 0, .int .u64 0, .bool false]) (t := 132) ?hr ?_; (case hd => rfl); (case hg => rfl); (case hr => first | (go_simp; done) | (go_simp; rfl)); intro gb122 hg w110 hbox hb; have n0_ := Aside0.mk (blk_below (g := gb117) (o := .cells #[.int .i64 a0_0, .int .u64 a0_1] 127 (0, 0)) (by (with_reducible repeat (first | refine blk_drewN ?_ _ | refine blk_drew ?_ | refine blk_alloc ?_ _)); exact BK117.out) hb); have n1_ := Aside0.mk (blk_below (g := gb118) (o := .cells #[.func (.func 95) #[] #[], .func (.func 96) #[] #[]] 133 (0, 0)) (by (with_reducible repeat (first | refine blk_drewN ?_ _ | refine blk_drew ?_ | refine blk_alloc ?_ _)); exact BK118.out) hb); have n2_ := Aside0.mk (blk_below (g := gb119) (o := .cells #[.int .i64 x120000_11, .int .u64 x120001_11] 127 (0, 0)) (by (with_reducible repeat (first | refine blk_drewN ?_ _ | refine blk_drew ?_ | refine blk_alloc ?_ _)); exact BK119.out) hb); have n3_ := Aside0.mk (below_step (by repeat (first | (with_reducible first | exact HB.out | apply below_alloc | apply pw_below_drewN | apply below_drew1 | refine below_set ?_ GE117.out | refine below_set ?_ GE118.out | refine below_set ?_ GE119.out) | exact HB.out)) hb); have n4_ := Aside0.mk (hbox); have n5_ := Aside0.mk ((by rw [hg]; exact (below_size (by repeat (first | (with_reducible first | exact HB.out | apply below_alloc | apply pw_below_drewN | apply below_drew1 | refine below_set ?_ GE117.out | refine below_set ?_ GE118.out | refine below_set ?_ GE119.out) | exact HB.out))) : w.heap.size ≤ gb122)); have n6_ := Aside0.mk ((by rw [hg]; exact (below_size (by repeat (first | (with_reducible first | exact HB.out | apply below_alloc | apply pw_below_drewN | apply below_drew1 | refine below_set ?_ GE117.out | refine below_set ?_ GE118.out | refine below_set ?_ GE119.out) | exact HB.out))) : w.heap.size ≤ gb122)); have n7_ := Aside0.mk ((by rw [hg]; exact Nat.ne_of_lt (blk_lt (g := gb117) (o := .cells #[.int .i64 a0_0, .int .u64 a0_1] 127 (0, 0)) (by (with_reducible repeat (first | refine blk_drewN ?_ _ | refine blk_drew ?_ | refine blk_alloc ?_ _)); exact BK117.out)) : gb117 ≠ gb122)); have n8_ := Aside0.mk ((by rw [hg]; exact Nat.ne_of_gt (blk_lt (g := gb117) (o := .cells #[.int .i64 a0_0, .int .u64 a0_1] 127 (0, 0)) (by (with_reducible repeat (first | refine blk_drewN ?_ _ | refine blk_drew ?_ | refine blk_alloc ?_ _)); exact BK117.out)) : gb122 ≠ gb117)); have n9_ := Aside0.mk ((by rw [hg]; exact Nat.ne_of_lt (blk_lt (g := gb118) (o := .cells #[.func (.func 95) #[] #[], .func (.func 96) #[] #[]] 133 (0, 0)) (by (with_reducible repeat (first | refine blk_drewN ?_ _ | refine blk_drew ?_ | refine blk_alloc ?_ _)); exact BK118.out)) : gb118 ≠ gb122)); have n10_ := Aside0.mk ((by rw [hg]; exact Nat.ne_of_gt (blk_lt (g := gb118) (o := .cells #[.func (.func 95) #[] #[], .func (.func 96) #[] #[]] 133 (0, 0)) (by (with_reducible repeat (first | refine blk_drewN ?_ _ | refine blk_drew ?_ | refine blk_alloc ?_ _)); exact BK118.out)) : gb122 ≠ gb118)); have n11_ := Aside0.mk ((by rw [hg]; exact Nat.ne_of_lt (blk_lt (g := gb119) (o := .cells #[.int .i64 x120000_11, .int .u64 x120001_11] 127 (0, 0)) (by (with_reducible repeat (first | refine blk_drewN ?_ _ | refine blk_drew ?_ | refine blk_alloc ?_ _)); exact BK119.out)) : gb119 ≠ gb122)); have n12_ := Aside0.mk ((by rw [hg]; exact Nat.ne_of_gt (blk_lt (g := gb119) (o := .cells #[.int .i64 x120000_11, .int .u64 x120001_11] 127 (0, 0)) (by (with_reducible repeat (first | refine blk_drewN ?_ _ | refine blk_drew ?_ | refine blk_alloc ?_ _)); exact BK119.out)) : gb122 ≠ gb119)); clear BK117; clear BK118; clear BK119; clear HB; have BK117 := n0_; have BK118 := n1_; have BK119 := n2_; have HB := n3_; have BK122 := n4_; have GW122 := n5_; have GE122 := n6_; have NB117_122 := n7_; have NB122_117 := n8_; have NB118_122 := n9_; have NB122_118 := n10_; have NB119_122 := n11_; have NB122_119 := n12_; clear n0_ n1_ n2_ n3_ n4_ n5_ n6_ n7_ n8_ n9_ n10_ n11_ n12_; clear hb hbox hg; have hnb111 := NB122_117.out; have hnc111 := NB117_122.out; have hnb112 := NB122_118.out; have hnc112 := NB118_122.out; have hnb113 := NB122_119.out; have hnc113 := NB119_122.out; have hcz114_0 : w110.cell? ⟨gb122, 0, none⟩ = some (.int .u64 0) := (blk_cell BK122.out 0).trans rfl; have hcz114_1 : w110.cell? ⟨gb122, 1, none⟩ = some (.int .u64 0) := (blk_cell BK122.out 1).trans rfl; have hcz114_2 : w110.cell? ⟨gb122, 2, none⟩ = some (.int .u64 0) := (blk_cell BK122.out 2).trans rfl; have hcz114_3 : w110.cell? ⟨gb122, 3, none⟩ = some (.int .u64 0) := (blk_cell BK122.out 3).trans rfl; have hcz114_4 : w110.cell? ⟨gb122, 4, none⟩ = some (.bool false) := (blk_cell BK122.out 4).trans rfl; have hfz114_0 := blk_frozen BK122.out 0; have hfz114_1 := blk_frozen BK122.out 1; have hfz114_2 := blk_frozen BK122.out 2; have hfz114_3 := blk_frozen BK122.out 3; have hfz114_4 := blk_frozen BK122.out 4))
            have n0_ : Aside0 ((((((w110.setCell ⟨gb122, 0, none⟩ (.int .u64 0)).setCell ⟨gb122, 1, none⟩ (.int .u64 0)).setCell ⟨gb122, 2, none⟩ (.int .u64 0)).setCell ⟨gb122, 3, none⟩ (.int .u64 x10_27)).setCell ⟨gb122, 4, none⟩ (.bool (!((decide (a0_0 < 0)) == (decide (a1 < 0)))))).heap[gb117]? = some (.cells #[.int .i64 a0_0, .int .u64 a0_1] 127 (0, 0))) := ⟨by (with_reducible repeat (first | refine blk_drewN ?_ _ | refine blk_drew ?_ | refine blk_alloc ?_ _)); refine blk_far ?_ NB117_122.out _; (with_reducible repeat (first | refine blk_drewN ?_ _ | refine blk_drew ?_ | refine blk_alloc ?_ _)); refine blk_far ?_ NB117_122.out _; (with_reducible repeat (first | refine blk_drewN ?_ _ | refine blk_drew ?_ | refine blk_alloc ?_ _)); refine blk_far ?_ NB117_122.out _; (with_reducible repeat (first | refine blk_drewN ?_ _ | refine blk_drew ?_ | refine blk_alloc ?_ _)); refine blk_far ?_ NB117_122.out _; (with_reducible repeat (first | refine blk_drewN ?_ _ | refine blk_drew ?_ | refine blk_alloc ?_ _)); refine blk_far ?_ NB117_122.out _; (with_reducible repeat (first | refine blk_drewN ?_ _ | refine blk_drew ?_ | refine blk_alloc ?_ _)); exact BK117.out⟩
            have n1_ : Aside0 ((((((w110.setCell ⟨gb122, 0, none⟩ (.int .u64 0)).setCell ⟨gb122, 1, none⟩ (.int .u64 0)).setCell ⟨gb122, 2, none⟩ (.int .u64 0)).setCell ⟨gb122, 3, none⟩ (.int .u64 x10_27)).setCell ⟨gb122, 4, none⟩ (.bool (!((decide (a0_0 < 0)) == (decide (a1 < 0)))))).heap[gb118]? = some (.cells #[.func (.func 95) #[] #[], .func (.func 96) #[] #[]] 133 (0, 0))) := ⟨by (with_reducible repeat (first | refine blk_drewN ?_ _ | refine blk_drew ?_ | refine blk_alloc ?_ _)); refine blk_far ?_ NB118_122.out _; (with_reducible repeat (first | refine blk_drewN ?_ _ | refine blk_drew ?_ | refine blk_alloc ?_ _)); refine blk_far ?_ NB118_122.out _; (with_reducible repeat (first | refine blk_drewN ?_ _ | refine blk_drew ?_ | refine blk_alloc ?_ _)); refine blk_far ?_ NB118_122.out _; (with_reducible repeat (first | refine blk_drewN ?_ _ | refine blk_drew ?_ | refine blk_alloc ?_ _)); refine blk_far ?_ NB118_122.out _; (with_reducible repeat (first | refine blk_drewN ?_ _ | refine blk_drew ?_ | refine blk_alloc ?_ _)); refine blk_far ?_ NB118_122.out _; (with_reducible repeat (first | refine blk_drewN ?_ _ | refine blk_drew ?_ | refine blk_alloc ?_ _)); exact BK118.out⟩
            have n2_ : Aside0 ((((((w110.setCell ⟨gb122, 0, none⟩ (.int .u64 0)).setCell ⟨gb122, 1, none⟩ (.int .u64 0)).setCell ⟨gb122, 2, none⟩ (.int .u64 0)).setCell ⟨gb122, 3, none⟩ (.int .u64 x10_27)).setCell ⟨gb122, 4, none⟩ (.bool (!((decide (a0_0 < 0)) == (decide (a1 < 0)))))).heap[gb119]? = some (.cells #[.int .i64 x120000_11, .int .u64 x120001_11] 127 (0, 0))) := ⟨by (with_reducible repeat (first | refine blk_drewN ?_ _ | refine blk_drew ?_ | refine blk_alloc ?_ _)); refine blk_far ?_ NB119_122.out _; (with_reducible repeat (first | refine blk_drewN ?_ _ | refine blk_drew ?_ | refine blk_alloc ?_ _)); refine blk_far ?_ NB119_122.out _; (with_reducible repeat (first | refine blk_drewN ?_ _ | refine blk_drew ?_ | refine blk_alloc ?_ _)); refine blk_far ?_ NB119_122.out _; (with_reducible repeat (first | refine blk_drewN ?_ _ | refine blk_drew ?_ | refine blk_alloc ?_ _)); refine blk_far ?_ NB119_122.out _; (with_reducible repeat (first | refine blk_drewN ?_ _ | refine blk_drew ?_ | refine blk_alloc ?_ _)); refine blk_far ?_ NB119_122.out _; (with_reducible repeat (first | refine blk_drewN ?_ _ | refine blk_drew ?_ | refine blk_alloc ?_ _)); exact BK119.out⟩
            have n3_ : Aside0 ((((((w110.setCell ⟨gb122, 0, none⟩ (.int .u64 0)).setCell ⟨gb122, 1, none⟩ (.int .u64 0)).setCell ⟨gb122, 2, none⟩ (.int .u64 0)).setCell ⟨gb122, 3, none⟩ (.int .u64 x10_27)).setCell ⟨gb122, 4, none⟩ (.bool (!((decide (a0_0 < 0)) == (decide (a1 < 0)))))).heap[gb122]? = some (.cells #[.int .u64 0, .int .u64 0, .int .u64 0, .int .u64 x10_27, .bool (!((decide (a0_0 < 0)) == (decide (a1 < 0))))] 132 (0, 0))) := ⟨by (with_reducible repeat (first | refine blk_drewN ?_ _ | refine blk_drew ?_ | refine blk_alloc ?_ _)); refine blk_put (cs := #[.int .u64 0, .int .u64 0, .int .u64 0, .int .u64 x10_27, .bool false]) ?_ 4 _ rfl; (with_reducible repeat (first | refine blk_drewN ?_ _ | refine blk_drew ?_ | refine blk_alloc ?_ _)); refine blk_put (cs := #[.int .u64 0, .int .u64 0, .int .u64 0, .int .u64 0, .bool false]) ?_ 3 _ rfl; (with_reducible repeat (first | refine blk_drewN ?_ _ | refine blk_drew ?_ | refine blk_alloc ?_ _)); refine blk_put (cs := #[.int .u64 0, .int .u64 0, .int .u64 0, .int .u64 0, .bool false]) ?_ 2 _ rfl; (with_reducible repeat (first | refine blk_drewN ?_ _ | refine blk_drew ?_ | refine blk_alloc ?_ _)); refine blk_put (cs := #[.int .u64 0, .int .u64 0, .int .u64 0, .int .u64 0, .bool false]) ?_ 1 _ rfl; (with_reducible repeat (first | refine blk_drewN ?_ _ | refine blk_drew ?_ | refine blk_alloc ?_ _)); refine blk_put (cs := #[.int .u64 0, .int .u64 0, .int .u64 0, .int .u64 0, .bool false]) ?_ 0 _ rfl; (with_reducible repeat (first | refine blk_drewN ?_ _ | refine blk_drew ?_ | refine blk_alloc ?_ _)); exact BK122.out⟩
            have n4_ : Aside0 (Below w.heap.size w (((((w110.setCell ⟨gb122, 0, none⟩ (.int .u64 0)).setCell ⟨gb122, 1, none⟩ (.int .u64 0)).setCell ⟨gb122, 2, none⟩ (.int .u64 0)).setCell ⟨gb122, 3, none⟩ (.int .u64 x10_27)).setCell ⟨gb122, 4, none⟩ (.bool (!((decide (a0_0 < 0)) == (decide (a1 < 0))))))) := ⟨by repeat (first | (with_reducible first | exact HB.out | apply below_alloc | apply pw_below_drewN | apply below_drew1 | refine below_set ?_ GE117.out | refine below_set ?_ GE118.out | refine below_set ?_ GE119.out | refine below_set ?_ GE122.out) | exact HB.out)⟩
            (try clear BK117)
            (try clear BK118)
            (try clear BK119)
            (try clear BK122)
            (try clear HB)
            generalize (((((w110.setCell ⟨gb122, 0, none⟩ (.int .u64 0)).setCell ⟨gb122, 1, none⟩ (.int .u64 0)).setCell ⟨gb122, 2, none⟩ (.int .u64 0)).setCell ⟨gb122, 3, none⟩ (.int .u64 x10_27)).setCell ⟨gb122, 4, none⟩ (.bool (!((decide (a0_0 < 0)) == (decide (a1 < 0)))))) = w115 at n0_ n1_ n2_ n3_ n4_ ⊢
            have BK117 := n0_
            have BK118 := n1_
            have BK119 := n2_
            have BK122 := n3_
            have HB := n4_
            clear n0_ n1_ n2_ n3_ n4_
            have n0_ := Aside0.mk (blk_drew BK117.out)
            have n1_ := Aside0.mk (blk_drew BK118.out)
            have n2_ := Aside0.mk (blk_drew BK119.out)
            have n3_ := Aside0.mk (blk_drew BK122.out)
            have n4_ := Aside0.mk (below_drew1 HB.out)
            clear BK117
            clear BK118
            clear BK119
            clear BK122
            clear HB
            have BK117 := n0_
            have BK118 := n1_
            have BK119 := n2_
            have BK122 := n3_
            have HB := n4_
            clear n0_ n1_ n2_ n3_ n4_
            refine start_ (n := 14) (S := fun w' => w'.cell? ⟨gb119, 0, none⟩ = some (.int .i64 x120000_11) ∧ w'.cell? ⟨gb119, 1, none⟩ = some (.int .u64 x120001_11)) (ds := []) #[false, false, false, false, false, false, false, false, false, false, false, false, false, false] (by kernel_rfl) rfl rfl ⟨(blk_cell BK119.out 0).trans rfl, (blk_cell BK119.out 1).trans rfl⟩ (fun hHeld => ?_); refine with_tabW wide_Div.tab12 wide_Div.bits12 (fun HT_ HW_ => ?_)
            generalize w115.drew = w116 at BK117 BK118 BK119 BK122 HB hHeld ⊢
            refine pure_ (i := 0) (N := some 45) (v := ?_) (a' := ?_) #[true, false, false, false, false, false, false, false, false, false, false, false, false, false] rfl rfl (any_of HT_.out (by kernel_rfl)) (fun _ _ _ h => h) (Or.inl ⟨by rfl, ?_⟩) ?_ ?_
            rotate_left
            ·intro w'
             go_simp
             with_reducible rfl
            rotate_left
            ·simp only [Act.put, List.setIfInBounds_toArray, List.set_cons_zero, List.set_cons_succ, i64_w, i32_w]
             rfl
            refine pure_ (i := 3) (N := some 48) (v := ?_) (a' := ?_) #[true, false, false, true, false, false, false, false, false, false, false, false, false, false] rfl rfl (any_of HT_.out (by kernel_rfl)) (fun _ _ _ h => h) (Or.inl ⟨by rfl, ?_⟩) ?_ ?_
            rotate_left
            ·intro w'
             go_simp
             with_reducible rfl
            rotate_left
            ·simp only [Act.put, List.setIfInBounds_toArray, List.set_cons_zero, List.set_cons_succ, i64_w, i32_w]
             rfl
            refine pure_ (i := 5) (N := some 50) (v := ?_) (a' := ?_) #[true, false, false, true, false, true, false, false, false, false, false, false, false, false] rfl rfl (any_of HT_.out (by kernel_rfl)) (fun _ _ _ h => h) (Or.inl ⟨by rfl, ?_⟩) ?_ ?_
            rotate_left
            ·intro w'
             go_simp
             with_reducible rfl
            rotate_left
            ·simp only [Act.put, List.setIfInBounds_toArray, List.set_cons_zero, List.set_cons_succ, i64_w, i32_w]
             rfl
            refine pure_ (i := 8) (N := some 53) (v := ?_) (a' := ?_) #[true, false, false, true, false, true, false, false, true, false, false, false, false, false] rfl rfl (any_of HT_.out (by kernel_rfl)) (fun _ _ _ h => h) (Or.inl ⟨by rfl, ?_⟩) ?_ ?_
            rotate_left
            ·intro w'
             go_simp
             with_reducible rfl
            rotate_left
            ·simp only [Act.put, List.setIfInBounds_toArray, List.set_cons_zero, List.set_cons_succ, i64_w, i32_w]
             rfl
            refine take_ (i := 1) (N := some 46) (v := ?_) (a' := ?_) #[true, true, false, true, false, true, false, false, true, false, false, false, false, false] rfl rfl (take_ofW HT_.out HW_.out (by kernel_rfl)) (fun _ _ _ h => h) (Or.inl ⟨by rfl, ?_⟩) hHeld ?_ ?_
            rotate_left
            ·rintro w' ⟨s0, s1⟩
             go_simp
             with_reducible rfl
            rotate_left
            ·simp only [Act.put, List.setIfInBounds_toArray, List.set_cons_zero, List.set_cons_succ, i64_w, i32_w]
             rfl
            refine pure_ (i := 2) (N := some 47) (v := ?_) (a' := ?_) #[true, true, true, true, false, true, false, false, true, false, false, false, false, false] rfl rfl (any_of HT_.out (by kernel_rfl)) (fun _ _ _ h => h) (Or.inl ⟨by rfl, ?_⟩) ?_ ?_
            rotate_left
            ·intro w'
             go_simp
             with_reducible rfl
            rotate_left
            ·simp only [Act.put, List.setIfInBounds_toArray, List.set_cons_zero, List.set_cons_succ, i64_w, i32_w]
             rfl
            refine pure_ (i := 4) (N := some 49) (v := ?_) (a' := ?_) #[true, true, true, true, true, true, false, false, true, false, false, false, false, false] rfl rfl (any_of HT_.out (by kernel_rfl)) (fun _ _ _ h => h) (Or.inl ⟨by rfl, ?_⟩) ?_ ?_
            rotate_left
            ·intro w'
             go_simp
             with_reducible rfl
            rotate_left
            ·simp only [Act.put, List.setIfInBounds_toArray, List.set_cons_zero, List.set_cons_succ, i64_w, i32_w]
             rfl
            refine pure_ (i := 10) (N := some 55) (v := ?_) (a' := ?_) #[true, true, true, true, true, true, false, false, true, false, true, false, false, false] rfl rfl (any_of HT_.out (by kernel_rfl)) (fun _ _ _ h => h) (Or.inl ⟨by rfl, ?_⟩) ?_ ?_
            rotate_left
            ·intro w'
             go_simp
             with_reducible rfl
            rotate_left
            ·simp only [Act.put, List.setIfInBounds_toArray, List.set_cons_zero, List.set_cons_succ, i64_w, i32_w]
             rfl
            refine take_ (i := 6) (N := some 51) (v := ?_) (a' := ?_) #[true, true, true, true, true, true, true, false, true, false, true, false, false, false] rfl rfl (take_ofW HT_.out HW_.out (by kernel_rfl)) (fun _ _ _ h => h) (Or.inl ⟨by rfl, ?_⟩) hHeld ?_ ?_
            rotate_left
            ·rintro w' ⟨s0, s1⟩
             go_simp
             with_reducible rfl
            rotate_left
            ·simp only [Act.put, List.setIfInBounds_toArray, List.set_cons_zero, List.set_cons_succ, i64_w, i32_w]
             rfl
            refine pure_ (i := 7) (N := some 52) (v := ?_) (a' := ?_) #[true, true, true, true, true, true, true, true, true, false, true, false, false, false] rfl rfl (any_of HT_.out (by kernel_rfl)) (fun _ _ _ h => h) (Or.inl ⟨by rfl, ?_⟩) ?_ ?_
            rotate_left
            ·intro w'
             go_simp
             with_reducible rfl
            rotate_left
            ·simp only [Act.put, List.setIfInBounds_toArray, List.set_cons_zero, List.set_cons_succ, i64_w, i32_w]
             rfl
            refine pure_ (i := 9) (N := some 54) (v := ?_) (a' := ?_) #[true, true, true, true, true, true, true, true, true, true, true, false, false, false] rfl rfl (any_of HT_.out (by kernel_rfl)) (fun _ _ _ h => h) (Or.inl ⟨by rfl, ?_⟩) ?_ ?_
            rotate_left
            ·intro w'
             go_simp
             with_reducible rfl
            rotate_left
            ·simp only [Act.put, List.setIfInBounds_toArray, List.set_cons_zero, List.set_cons_succ, i64_w, i32_w]
             rfl
            refine one_ (i := 11) (N := none) #[true, true, true, true, true, true, true, true, true, true, true, true, false, false] rfl rfl (one_of HT_.out (by kernel_rfl)) (by decide) (fun K hK => ?_)
            have hs117 : w116.cell? ⟨gb122, 0, none⟩ = some (.int .u64 0) := (blk_cell BK122.out 0).trans rfl
            have hfs117 := blk_frozen BK122.out 0
            have hns117_0 := NB117_122.out
            have hns117_1 := NB118_122.out
            have hns117_2 := NB119_122.out
            have hms117_0 := NB122_117.out
            have hms117_1 := NB122_118.out
            have hms117_2 := NB122_119.out
            refine skip_ (w1 := ?_) (by rfl) rfl ?_ ?_
            rotate_left
            ·go_simp
             rfl
            refine hK.out _ _ ⟨((cell_far (p := ⟨gb122, _, none⟩) NB119_122.out _).trans (hHeld.1)), ((cell_far (p := ⟨gb122, _, none⟩) NB119_122.out _).trans (hHeld.2))⟩ (fun hHeld => ?_)
            clear hK K
            refine pure_ (i := 12) (N := some 56) (v := ?_) (a' := ?_) #[true, true, true, true, true, true, true, true, true, true, true, true, true, false] rfl rfl (any_of HT_.out (by kernel_rfl)) (fun _ _ _ h => h) (Or.inl ⟨by rfl, ?_⟩) ?_ ?_
            rotate_left
            ·intro w'
             go_simp
             with_reducible rfl
            rotate_left
            ·simp only [Act.put, List.setIfInBounds_toArray, List.set_cons_zero, List.set_cons_succ, i64_w, i32_w]
             rfl
            refine one_ (i := 13) (N := none) #[true, true, true, true, true, true, true, true, true, true, true, true, true, true] rfl rfl (one_of HT_.out (by kernel_rfl)) (by decide) (fun K hK => ?_)
            have hs118 : w116.cell? ⟨gb122, 2, none⟩ = some (.int .u64 0) := (blk_cell BK122.out 2).trans rfl
            have hfs118 := blk_frozen BK122.out 2
            have hns118_0 := NB117_122.out
            have hns118_1 := NB118_122.out
            have hns118_2 := NB119_122.out
            have hms118_0 := NB122_117.out
            have hms118_1 := NB122_118.out
            have hms118_2 := NB122_119.out
            refine skip_ (w1 := ?_) (by rfl) rfl ?_ ?_
            rotate_left
            ·go_simp
             rfl
            refine hK.out _ _ ⟨((cell_far (p := ⟨gb122, _, none⟩) NB119_122.out _).trans (hHeld.1)), ((cell_far (p := ⟨gb122, _, none⟩) NB119_122.out _).trans (hHeld.2))⟩ (fun hHeld => ?_)
            clear hK K
            refine done_ (done_of HT_.out (by kernel_rfl)) ?_
            have n0_ : Aside0 (((w116.setCell ⟨gb122, 0, none⟩ (.int .u64 (IntKind.u64.wrap (Int.tdiv (IntKind.u64.wrap (x120000_11)) x10_27)))).setCell ⟨gb122, 2, none⟩ (.int .u64 (Int.tmod (IntKind.u64.wrap (x120000_11)) x10_27))).heap[gb117]? = some (.cells #[.int .i64 a0_0, .int .u64 a0_1] 127 (0, 0))) := ⟨by (with_reducible repeat (first | refine blk_drewN ?_ _ | refine blk_drew ?_ | refine blk_alloc ?_ _)); refine blk_far ?_ NB117_122.out _; (with_reducible repeat (first | refine blk_drewN ?_ _ | refine blk_drew ?_ | refine blk_alloc ?_ _)); refine blk_far ?_ NB117_122.out _; (with_reducible repeat (first | refine blk_drewN ?_ _ | refine blk_drew ?_ | refine blk_alloc ?_ _)); exact BK117.out⟩
            have n1_ : Aside0 (((w116.setCell ⟨gb122, 0, none⟩ (.int .u64 (IntKind.u64.wrap (Int.tdiv (IntKind.u64.wrap (x120000_11)) x10_27)))).setCell ⟨gb122, 2, none⟩ (.int .u64 (Int.tmod (IntKind.u64.wrap (x120000_11)) x10_27))).heap[gb118]? = some (.cells #[.func (.func 95) #[] #[], .func (.func 96) #[] #[]] 133 (0, 0))) := ⟨by (with_reducible repeat (first | refine blk_drewN ?_ _ | refine blk_drew ?_ | refine blk_alloc ?_ _)); refine blk_far ?_ NB118_122.out _; (with_reducible repeat (first | refine blk_drewN ?_ _ | refine blk_drew ?_ | refine blk_alloc ?_ _)); refine blk_far ?_ NB118_122.out _; (with_reducible repeat (first | refine blk_drewN ?_ _ | refine blk_drew ?_ | refine blk_alloc ?_ _)); exact BK118.out⟩
            have n2_ : Aside0 (((w116.setCell ⟨gb122, 0, none⟩ (.int .u64 (IntKind.u64.wrap (Int.tdiv (IntKind.u64.wrap (x120000_11)) x10_27)))).setCell ⟨gb122, 2, none⟩ (.int .u64 (Int.tmod (IntKind.u64.wrap (x120000_11)) x10_27))).heap[gb119]? = some (.cells #[.int .i64 x120000_11, .int .u64 x120001_11] 127 (0, 0))) := ⟨by (with_reducible repeat (first | refine blk_drewN ?_ _ | refine blk_drew ?_ | refine blk_alloc ?_ _)); refine blk_far ?_ NB119_122.out _; (with_reducible repeat (first | refine blk_drewN ?_ _ | refine blk_drew ?_ | refine blk_alloc ?_ _)); refine blk_far ?_ NB119_122.out _; (with_reducible repeat (first | refine blk_drewN ?_ _ | refine blk_drew ?_ | refine blk_alloc ?_ _)); exact BK119.out⟩
            have n3_ : Aside0 (((w116.setCell ⟨gb122, 0, none⟩ (.int .u64 (IntKind.u64.wrap (Int.tdiv (IntKind.u64.wrap (x120000_11)) x10_27)))).setCell ⟨gb122, 2, none⟩ (.int .u64 (Int.tmod (IntKind.u64.wrap (x120000_11)) x10_27))).heap[gb122]? = some (.cells #[.int .u64 (IntKind.u64.wrap (Int.tdiv (IntKind.u64.wrap (x120000_11)) x10_27)), .int .u64 0, .int .u64 (Int.tmod (IntKind.u64.wrap (x120000_11)) x10_27), .int .u64 x10_27, .bool (!((decide (a0_0 < 0)) == (decide (a1 < 0))))] 132 (0, 0))) := ⟨by (with_reducible repeat (first | refine blk_drewN ?_ _ | refine blk_drew ?_ | refine blk_alloc ?_ _)); refine blk_put (cs := #[.int .u64 (IntKind.u64.wrap (Int.tdiv (IntKind.u64.wrap (x120000_11)) x10_27)), .int .u64 0, .int .u64 0, .int .u64 x10_27, .bool (!((decide (a0_0 < 0)) == (decide (a1 < 0))))]) ?_ 2 _ rfl; (with_reducible repeat (first | refine blk_drewN ?_ _ | refine blk_drew ?_ | refine blk_alloc ?_ _)); refine blk_put (cs := #[.int .u64 0, .int .u64 0, .int .u64 0, .int .u64 x10_27, .bool (!((decide (a0_0 < 0)) == (decide (a1 < 0))))]) ?_ 0 _ rfl; (with_reducible repeat (first | refine blk_drewN ?_ _ | refine blk_drew ?_ | refine blk_alloc ?_ _)); exact BK122.out⟩
            have n4_ : Aside0 (Below w.heap.size w ((w116.setCell ⟨gb122, 0, none⟩ (.int .u64 (IntKind.u64.wrap (Int.tdiv (IntKind.u64.wrap (x120000_11)) x10_27)))).setCell ⟨gb122, 2, none⟩ (.int .u64 (Int.tmod (IntKind.u64.wrap (x120000_11)) x10_27)))) := ⟨by repeat (first | (with_reducible first | exact HB.out | apply below_alloc | apply pw_below_drewN | apply below_drew1 | refine below_set ?_ GE117.out | refine below_set ?_ GE118.out | refine below_set ?_ GE119.out | refine below_set ?_ GE122.out) | exact HB.out)⟩
            (try clear BK117)
            (try clear BK118)
            (try clear BK119)
            (try clear BK122)
            (try clear HB)
            generalize ((w116.setCell ⟨gb122, 0, none⟩ (.int .u64 (IntKind.u64.wrap (Int.tdiv (IntKind.u64.wrap (x120000_11)) x10_27)))).setCell ⟨gb122, 2, none⟩ (.int .u64 (Int.tmod (IntKind.u64.wrap (x120000_11)) x10_27))) = w119 at n0_ n1_ n2_ n3_ n4_ ⊢
            have BK117 := n0_
            have BK118 := n1_
            have BK119 := n2_
            have BK122 := n3_
            have HB := n4_
            clear n0_ n1_ n2_ n3_ n4_
            have hcz120_0 : w119.cell? ⟨gb122, 0, none⟩ = some (.int .u64 (IntKind.u64.wrap (Int.tdiv (IntKind.u64.wrap (x120000_11)) x10_27))) := (blk_cell BK122.out 0).trans rfl
            have hcz120_1 : w119.cell? ⟨gb122, 1, none⟩ = some (.int .u64 0) := (blk_cell BK122.out 1).trans rfl
            have hcz120_2 : w119.cell? ⟨gb122, 2, none⟩ = some (.int .u64 (Int.tmod (IntKind.u64.wrap (x120000_11)) x10_27)) := (blk_cell BK122.out 2).trans rfl
            have hcz120_3 : w119.cell? ⟨gb122, 3, none⟩ = some (.int .u64 x10_27) := (blk_cell BK122.out 3).trans rfl
            have hcz120_4 : w119.cell? ⟨gb122, 4, none⟩ = some (.bool (!((decide (a0_0 < 0)) == (decide (a1 < 0))))) := (blk_cell BK122.out 4).trans rfl
            have hfz120_0 := blk_frozen BK122.out 0
            have hfz120_1 := blk_frozen BK122.out 1
            have hfz120_2 := blk_frozen BK122.out 2
            have hfz120_3 := blk_frozen BK122.out 3
            have hfz120_4 := blk_frozen BK122.out 4
            have hnb121 := NB119_118.out
            have hnc121 := NB118_119.out
            have hcz122_0 : w119.cell? ⟨gb119, 0, none⟩ = some (.int .i64 x120000_11) := (blk_cell BK119.out 0).trans rfl
            have hcz122_1 : w119.cell? ⟨gb119, 1, none⟩ = some (.int .u64 x120001_11) := (blk_cell BK119.out 1).trans rfl
            have hfz122_0 := blk_frozen BK119.out 0
            have hfz122_1 := blk_frozen BK119.out 1
            try go_wp2_with (first | ((with_reducible refine gate_callee (f := 71) rfl ?_); refine goesL_ (some 63) rfl rfl Star.func71 (by kernel_rfl) rfl #[.int .u64 (Int.tmod (IntKind.u64.wrap (x120000_11)) x10_27), .int .u64 x120001_11, .int .u64 x10_27] rfl (by (try simp only [List.map_toArray, List.map_cons, List.map_nil]); first | done | rfl | (simp only [List.length_drop, List.length_take]; rfl)) ?_; (with_reducible refine (math_bits_Div64.calls kj27 (Int.tmod (IntKind.u64.wrap (x120000_11)) x10_27) x120001_11 x10_27 t123 t124 _ A31.out).mono ?_); rintro e w' ⟨rfl, ⟨nd, rfl⟩⟩; refine ⟨_, rfl, ?_⟩; (try (rw [drewN_self w119]; generalize hq_ : World.drewN w119 _ = w119; have n0_ : Aside0 (w119.heap[gb117]? = some (.cells #[.int .i64 a0_0, .int .u64 a0_1] 127 (0, 0))) := ⟨by rw [← hq_]; exact (by (with_reducible repeat (first | refine blk_drewN ?_ _ | refine blk_drew ?_ | refine blk_alloc ?_ _)); exact BK117.out)⟩; have n1_ : Aside0 (w119.heap[gb118]? = some (.cells #[.func (.func 95) #[] #[], .func (.func 96) #[] #[]] 133 (0, 0))) := ⟨by rw [← hq_]; exact (by (with_reducible repeat (first | refine blk_drewN ?_ _ | refine blk_drew ?_ | refine blk_alloc ?_ _)); exact BK118.out)⟩; have n2_ : Aside0 (w119.heap[gb119]? = some (.cells #[.int .i64 x120000_11, .int .u64 x120001_11] 127 (0, 0))) := ⟨by rw [← hq_]; exact (by (with_reducible repeat (first | refine blk_drewN ?_ _ | refine blk_drew ?_ | refine blk_alloc ?_ _)); exact BK119.out)⟩; have n3_ : Aside0 (w119.heap[gb122]? = some (.cells #[.int .u64 (IntKind.u64.wrap (Int.tdiv (IntKind.u64.wrap (x120000_11)) x10_27)), .int .u64 0, .int .u64 (Int.tmod (IntKind.u64.wrap (x120000_11)) x10_27), .int .u64 x10_27, .bool (!((decide (a0_0 < 0)) == (decide (a1 < 0))))] 132 (0, 0))) := ⟨by rw [← hq_]; exact (by (with_reducible repeat (first | refine blk_drewN ?_ _ | refine blk_drew ?_ | refine blk_alloc ?_ _)); exact BK122.out)⟩; have n4_ : Aside0 (Below w.heap.size w w119) := ⟨by rw [← hq_]; exact (by repeat (first | (with_reducible first | exact HB.out | apply below_alloc | apply pw_below_drewN | apply below_drew1 | refine below_set ?_ GE117.out | refine below_set ?_ GE118.out | refine below_set ?_ GE119.out | refine below_set ?_ GE122.out) | exact HB.out))⟩; clear BK117 BK118 BK119 BK122 HB hq_; have BK117 := n0_; have BK118 := n1_; have BK119 := n2_; have BK122 := n3_; have HB := n4_; clear n0_ n1_ n2_ n3_ n4_)); (try (have hcz123_0 : w119.cell? ⟨gb117, 0, none⟩ = some (.int .i64 a0_0) := (blk_cell BK117.out 0).trans rfl; have hfz123_0 := blk_frozen BK117.out 0; have hcz123_1 : w119.cell? ⟨gb117, 1, none⟩ = some (.int .u64 a0_1) := (blk_cell BK117.out 1).trans rfl; have hfz123_1 := blk_frozen BK117.out 1; have hcz124_0 : w119.cell? ⟨gb118, 0, none⟩ = some (.func (.func 95) #[] #[]) := (blk_cell BK118.out 0).trans rfl; have hfz124_0 := blk_frozen BK118.out 0; have hcz124_1 : w119.cell? ⟨gb118, 1, none⟩ = some (.func (.func 96) #[] #[]) := (blk_cell BK118.out 1).trans rfl; have hfz124_1 := blk_frozen BK118.out 1; have hcz125_0 : w119.cell? ⟨gb119, 0, none⟩ = some (.int .i64 x120000_11) := (blk_cell BK119.out 0).trans rfl; have hfz125_0 := blk_frozen BK119.out 0; have hcz125_1 : w119.cell? ⟨gb119, 1, none⟩ = some (.int .u64 x120001_11) := (blk_cell BK119.out 1).trans rfl; have hfz125_1 := blk_frozen BK119.out 1; have hcz126_0 : w119.cell? ⟨gb122, 0, none⟩ = some (.int .u64 (IntKind.u64.wrap (Int.tdiv (IntKind.u64.wrap (x120000_11)) x10_27))) := (blk_cell BK122.out 0).trans rfl; have hfz126_0 := blk_frozen BK122.out 0; have hcz126_1 : w119.cell? ⟨gb122, 1, none⟩ = some (.int .u64 0) := (blk_cell BK122.out 1).trans rfl; have hfz126_1 := blk_frozen BK122.out 1; have hcz126_2 : w119.cell? ⟨gb122, 2, none⟩ = some (.int .u64 (Int.tmod (IntKind.u64.wrap (x120000_11)) x10_27)) := (blk_cell BK122.out 2).trans rfl; have hfz126_2 := blk_frozen BK122.out 2; have hcz126_3 : w119.cell? ⟨gb122, 3, none⟩ = some (.int .u64 x10_27) := (blk_cell BK122.out 3).trans rfl; have hfz126_3 := blk_frozen BK122.out 3; have hcz126_4 : w119.cell? ⟨gb122, 4, none⟩ = some (.bool (!((decide (a0_0 < 0)) == (decide (a1 < 0))))) := (blk_cell BK122.out 4).trans rfl; have hfz126_4 := blk_frozen BK122.out 4))))
            have n0_ : Aside0 (((w119.setCell ⟨gb122, 1, none⟩ (.int .u64 t123)).setCell ⟨gb122, 2, none⟩ (.int .u64 t124)).heap[gb117]? = some (.cells #[.int .i64 a0_0, .int .u64 a0_1] 127 (0, 0))) := ⟨by (with_reducible repeat (first | refine blk_drewN ?_ _ | refine blk_drew ?_ | refine blk_alloc ?_ _)); refine blk_far ?_ NB117_122.out _; (with_reducible repeat (first | refine blk_drewN ?_ _ | refine blk_drew ?_ | refine blk_alloc ?_ _)); refine blk_far ?_ NB117_122.out _; (with_reducible repeat (first | refine blk_drewN ?_ _ | refine blk_drew ?_ | refine blk_alloc ?_ _)); exact BK117.out⟩
            have n1_ : Aside0 (((w119.setCell ⟨gb122, 1, none⟩ (.int .u64 t123)).setCell ⟨gb122, 2, none⟩ (.int .u64 t124)).heap[gb118]? = some (.cells #[.func (.func 95) #[] #[], .func (.func 96) #[] #[]] 133 (0, 0))) := ⟨by (with_reducible repeat (first | refine blk_drewN ?_ _ | refine blk_drew ?_ | refine blk_alloc ?_ _)); refine blk_far ?_ NB118_122.out _; (with_reducible repeat (first | refine blk_drewN ?_ _ | refine blk_drew ?_ | refine blk_alloc ?_ _)); refine blk_far ?_ NB118_122.out _; (with_reducible repeat (first | refine blk_drewN ?_ _ | refine blk_drew ?_ | refine blk_alloc ?_ _)); exact BK118.out⟩
            have n2_ : Aside0 (((w119.setCell ⟨gb122, 1, none⟩ (.int .u64 t123)).setCell ⟨gb122, 2, none⟩ (.int .u64 t124)).heap[gb119]? = some (.cells #[.int .i64 x120000_11, .int .u64 x120001_11] 127 (0, 0))) := ⟨by (with_reducible repeat (first | refine blk_drewN ?_ _ | refine blk_drew ?_ | refine blk_alloc ?_ _)); refine blk_far ?_ NB119_122.out _; (with_reducible repeat (first | refine blk_drewN ?_ _ | refine blk_drew ?_ | refine blk_alloc ?_ _)); refine blk_far ?_ NB119_122.out _; (with_reducible repeat (first | refine blk_drewN ?_ _ | refine blk_drew ?_ | refine blk_alloc ?_ _)); exact BK119.out⟩
            have n3_ : Aside0 (((w119.setCell ⟨gb122, 1, none⟩ (.int .u64 t123)).setCell ⟨gb122, 2, none⟩ (.int .u64 t124)).heap[gb122]? = some (.cells #[.int .u64 (IntKind.u64.wrap (Int.tdiv (IntKind.u64.wrap (x120000_11)) x10_27)), .int .u64 t123, .int .u64 t124, .int .u64 x10_27, .bool (!((decide (a0_0 < 0)) == (decide (a1 < 0))))] 132 (0, 0))) := ⟨by (with_reducible repeat (first | refine blk_drewN ?_ _ | refine blk_drew ?_ | refine blk_alloc ?_ _)); refine blk_put (cs := #[.int .u64 (IntKind.u64.wrap (Int.tdiv (IntKind.u64.wrap (x120000_11)) x10_27)), .int .u64 t123, .int .u64 (Int.tmod (IntKind.u64.wrap (x120000_11)) x10_27), .int .u64 x10_27, .bool (!((decide (a0_0 < 0)) == (decide (a1 < 0))))]) ?_ 2 _ rfl; (with_reducible repeat (first | refine blk_drewN ?_ _ | refine blk_drew ?_ | refine blk_alloc ?_ _)); refine blk_put (cs := #[.int .u64 (IntKind.u64.wrap (Int.tdiv (IntKind.u64.wrap (x120000_11)) x10_27)), .int .u64 0, .int .u64 (Int.tmod (IntKind.u64.wrap (x120000_11)) x10_27), .int .u64 x10_27, .bool (!((decide (a0_0 < 0)) == (decide (a1 < 0))))]) ?_ 1 _ rfl; (with_reducible repeat (first | refine blk_drewN ?_ _ | refine blk_drew ?_ | refine blk_alloc ?_ _)); exact BK122.out⟩
            have n4_ : Aside0 (Below w.heap.size w ((w119.setCell ⟨gb122, 1, none⟩ (.int .u64 t123)).setCell ⟨gb122, 2, none⟩ (.int .u64 t124))) := ⟨by repeat (first | (with_reducible first | exact HB.out | apply below_alloc | apply pw_below_drewN | apply below_drew1 | refine below_set ?_ GE117.out | refine below_set ?_ GE118.out | refine below_set ?_ GE119.out | refine below_set ?_ GE122.out) | exact HB.out)⟩
            (try clear BK117)
            (try clear BK118)
            (try clear BK119)
            (try clear BK122)
            (try clear HB)
            generalize ((w119.setCell ⟨gb122, 1, none⟩ (.int .u64 t123)).setCell ⟨gb122, 2, none⟩ (.int .u64 t124)) = w127 at n0_ n1_ n2_ n3_ n4_ ⊢
            have BK117 := n0_
            have BK118 := n1_
            have BK119 := n2_
            have BK122 := n3_
            have HB := n4_
            clear n0_ n1_ n2_ n3_ n4_
            have n0_ := Aside0.mk (blk_drew BK117.out)
            have n1_ := Aside0.mk (blk_drew BK118.out)
            have n2_ := Aside0.mk (blk_drew BK119.out)
            have n3_ := Aside0.mk (blk_drew BK122.out)
            have n4_ := Aside0.mk (below_drew1 HB.out)
            clear BK117
            clear BK118
            clear BK119
            clear BK122
            clear HB
            have BK117 := n0_
            have BK118 := n1_
            have BK119 := n2_
            have BK122 := n3_
            have HB := n4_
            clear n0_ n1_ n2_ n3_ n4_
            have hx129 : ∀ W, (Instr.indexAt 133 (.pointer (some ⟨gb118, 0, none⟩)) (.int .i64 a2)).run Star.prog W = .ok (.pointer (some ⟨gb118, 1, none⟩)) W := fun W => by rw [show a2 = 1 from beq_iff_eq.mp (by first | (with_reducible assumption) | assumption)]; first | kernel_rfl | rfl
            refine start_ (n := 5) (S := fun w' => w'.cell? ⟨gb118, 0, none⟩ = some (.func (.func 95) #[] #[]) ∧ w'.cell? ⟨gb118, 1, none⟩ = some (.func (.func 96) #[] #[]) ∧ w'.cell? ⟨gb122, 0, none⟩ = some (.int .u64 (IntKind.u64.wrap (Int.tdiv (IntKind.u64.wrap (x120000_11)) x10_27))) ∧ w'.cell? ⟨gb122, 1, none⟩ = some (.int .u64 t123) ∧ w'.cell? ⟨gb122, 2, none⟩ = some (.int .u64 t124) ∧ w'.cell? ⟨gb122, 3, none⟩ = some (.int .u64 x10_27) ∧ w'.cell? ⟨gb122, 4, none⟩ = some (.bool (!((decide (a0_0 < 0)) == (decide (a1 < 0)))))) (ds := []) #[false, false, false, false, false] (by kernel_rfl) rfl rfl ⟨(blk_cell BK118.out 0).trans rfl, (blk_cell BK118.out 1).trans rfl, (blk_cell BK122.out 0).trans rfl, (blk_cell BK122.out 1).trans rfl, (blk_cell BK122.out 2).trans rfl, (blk_cell BK122.out 3).trans rfl, (blk_cell BK122.out 4).trans rfl⟩ (fun hHeld => ?_)
            generalize w127.drew = w128 at BK117 BK118 BK119 BK122 HB hHeld ⊢
            refine pure_ (i := 0) (N := some 68) (v := ?_) (a' := ?_) #[true, false, false, false, false] rfl rfl (by kernel_rfl) (fun _ _ _ h => h) (Or.inl ⟨by rfl, ?_⟩) ?_ ?_
            rotate_left
            ·intro w'
             go_simp
             with_reducible rfl
            rotate_left
            ·simp only [Act.put, List.setIfInBounds_toArray, List.set_cons_zero, List.set_cons_succ, i64_w, i32_w]
             rfl
            refine pure_ (i := 1) (N := some 69) (v := ?_) (a' := ?_) #[true, true, false, false, false] rfl rfl (by kernel_rfl) (fun _ _ _ h => h) (Or.inl ⟨by rfl, ?_⟩) ?_ ?_
            rotate_left
            ·intro w'
             go_simp
             with_reducible rfl
            rotate_left
            ·simp only [Act.put, List.setIfInBounds_toArray, List.set_cons_zero, List.set_cons_succ, i64_w, i32_w]
             rfl
            refine take_ (i := 2) (N := some 70) (v := ?_) (a' := ?_) #[true, true, true, false, false] rfl rfl (by kernel_rfl) (fun _ _ _ h => h) (Or.inl ⟨by rfl, ?_⟩) hHeld ?_ ?_
            rotate_left
            ·rintro w' ⟨s0, s1, s2, s3, s4, s5, s6⟩
             go_simp
             with_reducible rfl
            rotate_left
            ·simp only [Act.put, List.setIfInBounds_toArray, List.set_cons_zero, List.set_cons_succ, i64_w, i32_w]
             rfl
            refine take_ (i := 3) (N := some 71) (v := ?_) (a' := ?_) #[true, true, true, true, false] rfl rfl (by kernel_rfl) (fun _ _ _ h => h) (Or.inl ⟨by rfl, ?_⟩) hHeld ?_ ?_
            rotate_left
            ·rintro w' ⟨s0, s1, s2, s3, s4, s5, s6⟩
             go_simp
             with_reducible rfl
            rotate_left
            ·simp only [Act.put, List.setIfInBounds_toArray, List.set_cons_zero, List.set_cons_succ, i64_w, i32_w]
             rfl
            refine one_ (i := 4) (N := some 72) #[true, true, true, true, true] rfl rfl (by kernel_rfl) (by decide) (fun K hK => ?_)
            refine XWalk.goesV_ Star.func96 (by kernel_rfl) rfl #[.agg #[.int .u64 (IntKind.u64.wrap (Int.tdiv (IntKind.u64.wrap (x120000_11)) x10_27)), .int .u64 t123, .int .u64 t124, .int .u64 x10_27, .bool (!((decide (a0_0 < 0)) == (decide (a1 < 0))))]] (by rfl) rfl rfl rfl (by (try simp only [List.map_toArray, List.map_cons, List.map_nil]); first | done | rfl | (simp only [List.length_drop, List.length_take]; rfl)) ?_
            with_reducible refine (wide_quotient_near.calls (IntKind.u64.wrap (Int.tdiv (IntKind.u64.wrap (x120000_11)) x10_27)) t123 t124 x10_27 (!((decide (a0_0 < 0)) == (decide (a1 < 0)))) t126 _ A105.out).mono ?_
            rintro e w130 ⟨rfl, hb⟩
            refine ⟨_, rfl, ?_⟩
            have n0_ := Aside0.mk (blk_below (g := gb117) (o := .cells #[.int .i64 a0_0, .int .u64 a0_1] 127 (0, 0)) (by (with_reducible repeat (first | refine blk_drewN ?_ _ | refine blk_drew ?_ | refine blk_alloc ?_ _)); exact BK117.out) hb)
            have n1_ := Aside0.mk (blk_below (g := gb118) (o := .cells #[.func (.func 95) #[] #[], .func (.func 96) #[] #[]] 133 (0, 0)) (by (with_reducible repeat (first | refine blk_drewN ?_ _ | refine blk_drew ?_ | refine blk_alloc ?_ _)); exact BK118.out) hb)
            have n2_ := Aside0.mk (blk_below (g := gb119) (o := .cells #[.int .i64 x120000_11, .int .u64 x120001_11] 127 (0, 0)) (by (with_reducible repeat (first | refine blk_drewN ?_ _ | refine blk_drew ?_ | refine blk_alloc ?_ _)); exact BK119.out) hb)
            have n3_ := Aside0.mk (blk_below (g := gb122) (o := .cells #[.int .u64 (IntKind.u64.wrap (Int.tdiv (IntKind.u64.wrap (x120000_11)) x10_27)), .int .u64 t123, .int .u64 t124, .int .u64 x10_27, .bool (!((decide (a0_0 < 0)) == (decide (a1 < 0))))] 132 (0, 0)) (by (with_reducible repeat (first | refine blk_drewN ?_ _ | refine blk_drew ?_ | refine blk_alloc ?_ _)); exact BK122.out) hb)
            have n4_ := Aside0.mk (below_step (by repeat (first | (with_reducible first | exact HB.out | apply below_alloc | apply pw_below_drewN | apply below_drew1 | refine below_set ?_ GE117.out | refine below_set ?_ GE118.out | refine below_set ?_ GE119.out | refine below_set ?_ GE122.out) | exact HB.out)) hb)
            clear BK117
            clear BK118
            clear BK119
            clear BK122
            clear HB
            have BK117 := n0_
            have BK118 := n1_
            have BK119 := n2_
            have BK122 := n3_
            have HB := n4_
            clear n0_ n1_ n2_ n3_ n4_
            (try clear hb)
            (try clear hb2)
            (try clear hk)
            (try clear hi)
            refine hK.out _ _ ⟨(blk_cell BK118.out 0).trans rfl, (blk_cell BK118.out 1).trans rfl, (blk_cell BK122.out 0).trans rfl, (blk_cell BK122.out 1).trans rfl, (blk_cell BK122.out 2).trans rfl, (blk_cell BK122.out 3).trans rfl, (blk_cell BK122.out 4).trans rfl⟩ (fun hHeld => ?_)
            clear hK K
            refine norm_ (a' := ?_) ?_ ?_
            rotate_left
            ·show Act.put _ (some 72) _ = _
             simp only [Act.put, List.setIfInBounds_toArray, List.set_cons_zero, List.set_cons_succ, i64_w, i32_w]
             rfl
            refine done_ (by kernel_rfl) ?_
            go_upto_if 72 with (fail)
            go_cut [] (fun wc => ∃ (kq : Nat) (x123000_105 : Int) (x123001_105 : Int), Aside0 (wide_Div.j5 kq x123000_105 x123001_105 t124 x10_27 (!((decide (a0_0 < 0)) == (decide (a1 < 0)))) = some (r1, r2)) ∧ Aside0 (kq ≤ kj27) ∧ Aside0 (wc.heap[gb117]? = some (.cells #[.int .i64 a0_0, .int .u64 a0_1] 127 (0, 0))) ∧ Aside0 (wc.heap[gb118]? = some (.cells #[.func (.func 95) #[] #[], .func (.func 96) #[] #[]] 133 (0, 0))) ∧ Aside0 (wc.heap[gb119]? = some (.cells #[.int .i64 x120000_11, .int .u64 x120001_11] 127 (0, 0))) ∧ Aside0 (wc.heap[gb122]? = some (.cells #[.int .u64 x123000_105, .int .u64 x123001_105, .int .u64 t124, .int .u64 x10_27, .bool (!((decide (a0_0 < 0)) == (decide (a1 < 0))))] 132 (0, 0))) ∧ Aside0 (Below w.heap.size w wc))
            case first =>
             have H := HC106.out
             clear HC106
             by_cases c131 : t126 = true
             ·subst c131
              have H1 : (if 0 ≤ t123 then (wide_Div.j5 kj27 (IntKind.u64.wrap ((IntKind.u64.wrap (Int.tdiv (IntKind.u64.wrap (x120000_11)) x10_27)) + (XWalk.c64 t123 1 0))) (XWalk.s64 t123 1 0) t124 x10_27 (!((decide (a0_0 < 0)) == (decide (a1 < 0))))) else (none)) = some (r1, r2) := by rw [if_pos rfl] at H; exact H
              clear H
              have H := H1
              clear H1
              by_cases c132 : 0 ≤ t123
              ·rw [if_pos c132] at H
               have c132b0 := eq_true c132
               have c132b1 : decide (0 ≤ t123) = true := decide_eq_true c132
               clear c132
               have H' := Aside0.mk H
               clear H
               have hnb133 := NB122_117.out
               have hnc133 := NB117_122.out
               have hnb134 := NB122_118.out
               have hnc134 := NB118_122.out
               have hnb135 := NB122_119.out
               have hnc135 := NB119_122.out
               have hcz136_0 : w130.cell? ⟨gb122, 0, none⟩ = some (.int .u64 (IntKind.u64.wrap (Int.tdiv (IntKind.u64.wrap (x120000_11)) x10_27))) := (blk_cell BK122.out 0).trans rfl
               have hcz136_1 : w130.cell? ⟨gb122, 1, none⟩ = some (.int .u64 t123) := (blk_cell BK122.out 1).trans rfl
               have hcz136_2 : w130.cell? ⟨gb122, 2, none⟩ = some (.int .u64 t124) := (blk_cell BK122.out 2).trans rfl
               have hcz136_3 : w130.cell? ⟨gb122, 3, none⟩ = some (.int .u64 x10_27) := (blk_cell BK122.out 3).trans rfl
               have hcz136_4 : w130.cell? ⟨gb122, 4, none⟩ = some (.bool (!((decide (a0_0 < 0)) == (decide (a1 < 0))))) := (blk_cell BK122.out 4).trans rfl
               have hfz136_0 := blk_frozen BK122.out 0
               have hfz136_1 := blk_frozen BK122.out 1
               have hfz136_2 := blk_frozen BK122.out 2
               have hfz136_3 := blk_frozen BK122.out 3
               have hfz136_4 := blk_frozen BK122.out 4
               have hx137 := fun W => math_bits_Add64.run t123 1 0 W (by first | omega | exact of_decide_eq_true (by first | (with_reducible assumption) | assumption) | exact of_eq_true (by assumption)) (by first | omega | exact of_decide_eq_true (by first | (with_reducible assumption) | assumption) | exact of_eq_true (by assumption)) (by first | omega | exact of_decide_eq_true (by first | (with_reducible assumption) | assumption) | exact of_eq_true (by assumption)) (by first | omega | exact of_decide_eq_true (by first | (with_reducible assumption) | assumption) | exact of_eq_true (by assumption))
               go_wp2
               go_meet
               case rel => exact ⟨_, (IntKind.u64.wrap ((IntKind.u64.wrap (Int.tdiv (IntKind.u64.wrap (x120000_11)) x10_27)) + (XWalk.c64 t123 1 0))), (XWalk.s64 t123 1 0), H', ⟨by have := HJ3.out; have := HJ11.out; have := HJ27.out; first | omega | exact Nat.le_refl _⟩, ⟨by (with_reducible repeat (first | refine blk_drewN ?_ _ | refine blk_drew ?_ | refine blk_alloc ?_ _)); refine blk_far ?_ NB117_122.out _; (with_reducible repeat (first | refine blk_drewN ?_ _ | refine blk_drew ?_ | refine blk_alloc ?_ _)); refine blk_far ?_ NB117_122.out _; (with_reducible repeat (first | refine blk_drewN ?_ _ | refine blk_drew ?_ | refine blk_alloc ?_ _)); exact BK117.out⟩, ⟨by (with_reducible repeat (first | refine blk_drewN ?_ _ | refine blk_drew ?_ | refine blk_alloc ?_ _)); refine blk_far ?_ NB118_122.out _; (with_reducible repeat (first | refine blk_drewN ?_ _ | refine blk_drew ?_ | refine blk_alloc ?_ _)); refine blk_far ?_ NB118_122.out _; (with_reducible repeat (first | refine blk_drewN ?_ _ | refine blk_drew ?_ | refine blk_alloc ?_ _)); exact BK118.out⟩, ⟨by (with_reducible repeat (first | refine blk_drewN ?_ _ | refine blk_drew ?_ | refine blk_alloc ?_ _)); refine blk_far ?_ NB119_122.out _; (with_reducible repeat (first | refine blk_drewN ?_ _ | refine blk_drew ?_ | refine blk_alloc ?_ _)); refine blk_far ?_ NB119_122.out _; (with_reducible repeat (first | refine blk_drewN ?_ _ | refine blk_drew ?_ | refine blk_alloc ?_ _)); exact BK119.out⟩, ⟨by (with_reducible repeat (first | refine blk_drewN ?_ _ | refine blk_drew ?_ | refine blk_alloc ?_ _)); refine blk_put (cs := #[.int .u64 (IntKind.u64.wrap (Int.tdiv (IntKind.u64.wrap (x120000_11)) x10_27)), .int .u64 (XWalk.s64 t123 1 0), .int .u64 t124, .int .u64 x10_27, .bool (!((decide (a0_0 < 0)) == (decide (a1 < 0))))]) ?_ 0 _ rfl; (with_reducible repeat (first | refine blk_drewN ?_ _ | refine blk_drew ?_ | refine blk_alloc ?_ _)); refine blk_put (cs := #[.int .u64 (IntKind.u64.wrap (Int.tdiv (IntKind.u64.wrap (x120000_11)) x10_27)), .int .u64 t123, .int .u64 t124, .int .u64 x10_27, .bool (!((decide (a0_0 < 0)) == (decide (a1 < 0))))]) ?_ 1 _ rfl; (with_reducible repeat (first | refine blk_drewN ?_ _ | refine blk_drew ?_ | refine blk_alloc ?_ _)); exact BK122.out⟩, ⟨by repeat (first | (with_reducible first | exact HB.out | apply below_alloc | apply pw_below_drewN | apply below_drew1 | refine below_set ?_ GE117.out | refine below_set ?_ GE118.out | refine below_set ?_ GE119.out | refine below_set ?_ GE122.out) | exact HB.out)⟩⟩
              ·rw [if_neg c132] at H
               exact absurd H (by simp)
             ·replace c131 := Bool.eq_false_iff.mpr c131
              subst c131
              have H1 : (wide_Div.j5 kj27 (IntKind.u64.wrap (Int.tdiv (IntKind.u64.wrap (x120000_11)) x10_27)) t123 t124 x10_27 (!((decide (a0_0 < 0)) == (decide (a1 < 0))))) = some (r1, r2) := by rw [if_neg (show ¬ (false = true) by decide)] at H; exact H
              clear H
              have H := H1
              clear H1
              have H' := Aside0.mk H
              clear H
              go_wp2
              go_meet
              case rel => exact ⟨_, (IntKind.u64.wrap (Int.tdiv (IntKind.u64.wrap (x120000_11)) x10_27)), (t123), H', ⟨by have := HJ3.out; have := HJ11.out; have := HJ27.out; first | omega | exact Nat.le_refl _⟩, ⟨by (with_reducible repeat (first | refine blk_drewN ?_ _ | refine blk_drew ?_ | refine blk_alloc ?_ _)); exact BK117.out⟩, ⟨by (with_reducible repeat (first | refine blk_drewN ?_ _ | refine blk_drew ?_ | refine blk_alloc ?_ _)); exact BK118.out⟩, ⟨by (with_reducible repeat (first | refine blk_drewN ?_ _ | refine blk_drew ?_ | refine blk_alloc ?_ _)); exact BK119.out⟩, ⟨by (with_reducible repeat (first | refine blk_drewN ?_ _ | refine blk_drew ?_ | refine blk_alloc ?_ _)); exact BK122.out⟩, ⟨by repeat (first | (with_reducible first | exact HB.out | apply below_alloc | apply pw_below_drewN | apply below_drew1 | refine below_set ?_ GE117.out | refine below_set ?_ GE118.out | refine below_set ?_ GE119.out | refine below_set ?_ GE122.out) | exact HB.out)⟩⟩
            case rest =>
             clear HC106
             try clear c1; try clear hx1; try clear p2; try clear c3; try clear c6; try clear p6; try clear c7; try clear c8; try clear c9; try clear c10; try clear c11; try clear c12; try clear hx12; try clear c13; try clear hx13; try clear c32; try clear c32b0; try clear c32b1; try clear c64; try clear p64; try clear c71; try clear c85; try clear c86; try clear c87; try clear c88; try clear c90; try clear c90b0; try clear c91; try clear c92; try clear c93; try clear c95; try clear c95b0; try clear c96; try clear c97; try clear c98; try clear c100; try clear c101; try clear c102; try clear c104; try clear c104b0; try clear c104b1; try clear c107; try clear c108; try clear c111; try clear c112; try clear c113; try clear c121; try clear hx129; try clear c131; try clear c132; try clear c132b0; try clear c132b1; try clear c133; try clear c134; try clear c135; try clear hx137; try clear hcz103_0; try clear hcz103_1; try clear hcz103_2; try clear hcz103_3; try clear hcz103_4; try clear hcz109_0; try clear hcz109_1; try clear hcz114_0; try clear hcz114_1; try clear hcz114_2; try clear hcz114_3; try clear hcz114_4; try clear hcz120_0; try clear hcz120_1; try clear hcz120_2; try clear hcz120_3; try clear hcz120_4; try clear hcz122_0; try clear hcz122_1; try clear hcz123_0; try clear hcz123_1; try clear hcz124_0; try clear hcz124_1; try clear hcz125_0; try clear hcz125_1; try clear hcz126_0; try clear hcz126_1; try clear hcz126_2; try clear hcz126_3; try clear hcz126_4; try clear hcz136_0; try clear hcz136_1; try clear hcz136_2; try clear hcz136_3; try clear hcz136_4; try clear hcz42_4; try clear hcz48_0; try clear hcz48_1; try clear hcz48_2; try clear hcz48_3; try clear hcz48_4; try clear hcz50_0; try clear hcz50_1; try clear hcz51_0; try clear hcz51_1; try clear hcz52_0; try clear hcz52_1; try clear hcz53_0; try clear hcz53_1; try clear hcz54_0; try clear hcz54_1; try clear hcz54_2; try clear hcz54_3; try clear hcz54_4; try clear hcz64_0; try clear hcz64_1; try clear hcz64_2; try clear hcz64_3; try clear hcz64_4; try clear hcz70_0; try clear hcz70_1; try clear hcz70_2; try clear hcz70_3; try clear hcz70_4; try clear hcz75_0; try clear hcz75_1; try clear hcz75_2; try clear hcz75_3; try clear hcz75_4; try clear hcz80_0; try clear hcz80_1; try clear hcz80_2; try clear hcz80_3; try clear hcz80_4; try clear hcz84_0; try clear hcz84_1; try clear hcz84_2; try clear hcz84_3; try clear hcz84_4; try clear hcz89_0; try clear hcz89_1; try clear hcz89_2; try clear hcz89_3; try clear hcz89_4; try clear hcz8_0; try clear hcz8_1; try clear hcz94_0; try clear hcz94_1; try clear hcz94_2; try clear hcz94_3; try clear hcz94_4; try clear hcz99_0; try clear hcz99_1; try clear hcz99_2; try clear hcz99_3; try clear hcz99_4; try clear hfz103_0; try clear hfz103_1; try clear hfz103_2; try clear hfz103_3; try clear hfz103_4; try clear hfz109_0; try clear hfz109_1; try clear hfz114_0; try clear hfz114_1; try clear hfz114_2; try clear hfz114_3; try clear hfz114_4; try clear hfz120_0; try clear hfz120_1; try clear hfz120_2; try clear hfz120_3; try clear hfz120_4; try clear hfz122_0; try clear hfz122_1; try clear hfz123_0; try clear hfz123_1; try clear hfz124_0; try clear hfz124_1; try clear hfz125_0; try clear hfz125_1; try clear hfz126_0; try clear hfz126_1; try clear hfz126_2; try clear hfz126_3; try clear hfz126_4; try clear hfz136_0; try clear hfz136_1; try clear hfz136_2; try clear hfz136_3; try clear hfz136_4; try clear hfz14_0; try clear hfz14_1; try clear hfz18_0; try clear hfz18_1; try clear hfz19_0; try clear hfz19_1; try clear hfz24_0; try clear hfz24_1; try clear hfz27_0; try clear hfz27_1; try clear hfz37_0; try clear hfz37_1; try clear hfz42_0; try clear hfz42_1; try clear hfz42_2; try clear hfz42_3; try clear hfz42_4; try clear hfz48_0; try clear hfz48_1; try clear hfz48_2; try clear hfz48_3; try clear hfz48_4; try clear hfz50_0; try clear hfz50_1; try clear hfz51_0; try clear hfz51_1; try clear hfz52_0; try clear hfz52_1; try clear hfz53_0; try clear hfz53_1; try clear hfz54_0; try clear hfz54_1; try clear hfz54_2; try clear hfz54_3; try clear hfz54_4; try clear hfz64_0; try clear hfz64_1; try clear hfz64_2; try clear hfz64_3; try clear hfz64_4; try clear hfz70_0; try clear hfz70_1; try clear hfz70_2; try clear hfz70_3; try clear hfz70_4; try clear hfz75_0; try clear hfz75_1; try clear hfz75_2; try clear hfz75_3; try clear hfz75_4; try clear hfz80_0; try clear hfz80_1; try clear hfz80_2; try clear hfz80_3; try clear hfz80_4; try clear hfz84_0; try clear hfz84_1; try clear hfz84_2; try clear hfz84_3; try clear hfz84_4; try clear hfz89_0; try clear hfz89_1; try clear hfz89_2; try clear hfz89_3; try clear hfz89_4; try clear hfz8_0; try clear hfz8_1; try clear hfz94_0; try clear hfz94_1; try clear hfz94_2; try clear hfz94_3; try clear hfz94_4; try clear hfz99_0; try clear hfz99_1; try clear hfz99_2; try clear hfz99_3; try clear hfz99_4; try clear p2
             obtain ⟨kq, x123000_105, x123001_105, HA, HJ105, BK117, BK118, BK119, BK122, HB⟩ := hcut
             cases kq with
             | zero => exact absurd HA.out (by simp [wide_Div.j5])
             | succ kj105 =>
              have H := HA.out
              clear HA
              simp only [wide_Div.j5] at H
              by_cases c138 : x123000_105 > 0
              ·rw [if_pos c138] at H
               have c138b0 : decide (0 < x123000_105) = true := decide_eq_true c138
               clear c138
               simp only [Option.some.injEq, Prod.mk.injEq] at H
               obtain ⟨rfl, rfl⟩ := H
               have hnb139 := NB122_117.out
               have hnc139 := NB117_122.out
               have hnb140 := NB122_118.out
               have hnc140 := NB118_122.out
               have hnb141 := NB122_119.out
               have hnc141 := NB119_122.out
               have hcz142_0 : wc.cell? ⟨gb122, 0, none⟩ = some (.int .u64 x123000_105) := (blk_cell BK122.out 0).trans rfl
               have hcz142_1 : wc.cell? ⟨gb122, 1, none⟩ = some (.int .u64 x123001_105) := (blk_cell BK122.out 1).trans rfl
               have hcz142_2 : wc.cell? ⟨gb122, 2, none⟩ = some (.int .u64 t124) := (blk_cell BK122.out 2).trans rfl
               have hcz142_3 : wc.cell? ⟨gb122, 3, none⟩ = some (.int .u64 x10_27) := (blk_cell BK122.out 3).trans rfl
               have hcz142_4 : wc.cell? ⟨gb122, 4, none⟩ = some (.bool (!((decide (a0_0 < 0)) == (decide (a1 < 0))))) := (blk_cell BK122.out 4).trans rfl
               have hfz142_0 := blk_frozen BK122.out 0
               have hfz142_1 := blk_frozen BK122.out 1
               have hfz142_2 := blk_frozen BK122.out 2
               have hfz142_3 := blk_frozen BK122.out 3
               have hfz142_4 := blk_frozen BK122.out 4
               go_wp2
               go_ret2
               exact ⟨by first | rfl | (simp [errW_none, errW_some] <;> rfl) | (simp [*, errW_none, errW_some] <;> rfl), by repeat (first | (with_reducible first | exact HB.out | apply below_alloc | apply pw_below_drewN | apply below_drew1 | refine below_set ?_ GE117.out | refine below_set ?_ GE118.out | refine below_set ?_ GE119.out | refine below_set ?_ GE122.out) | exact HB.out)⟩
              ·rw [if_neg c138] at H
               have c138b0 : decide (0 < x123000_105) = false := decide_eq_false c138
               clear c138
               have HC143 := Aside0.mk H
               clear H
               have hnb144 := NB122_117.out
               have hnc144 := NB117_122.out
               have hnb145 := NB122_118.out
               have hnc145 := NB118_122.out
               have hnb146 := NB122_119.out
               have hnc146 := NB119_122.out
               have hcz147_0 : wc.cell? ⟨gb122, 0, none⟩ = some (.int .u64 x123000_105) := (blk_cell BK122.out 0).trans rfl
               have hcz147_1 : wc.cell? ⟨gb122, 1, none⟩ = some (.int .u64 x123001_105) := (blk_cell BK122.out 1).trans rfl
               have hcz147_2 : wc.cell? ⟨gb122, 2, none⟩ = some (.int .u64 t124) := (blk_cell BK122.out 2).trans rfl
               have hcz147_3 : wc.cell? ⟨gb122, 3, none⟩ = some (.int .u64 x10_27) := (blk_cell BK122.out 3).trans rfl
               have hcz147_4 : wc.cell? ⟨gb122, 4, none⟩ = some (.bool (!((decide (a0_0 < 0)) == (decide (a1 < 0))))) := (blk_cell BK122.out 4).trans rfl
               have hfz147_0 := blk_frozen BK122.out 0
               have hfz147_1 := blk_frozen BK122.out 1
               have hfz147_2 := blk_frozen BK122.out 2
               have hfz147_3 := blk_frozen BK122.out 3
               have hfz147_4 := blk_frozen BK122.out 4
               go_upto_region 19 with (fail)
               go_cut [90] (fun v90 wc => ∃ (kq : Nat) (x90_142 : Bool), v90 = .bool x90_142 ∧ Aside0 (wide_Div.j6 kq x90_142 x123000_105 x123001_105 t124 x10_27 (!((decide (a0_0 < 0)) == (decide (a1 < 0)))) = some (r1, r2)) ∧ Aside0 (kq ≤ kj105) ∧ Aside0 (wc.heap[gb117]? = some (.cells #[.int .i64 a0_0, .int .u64 a0_1] 127 (0, 0))) ∧ Aside0 (wc.heap[gb118]? = some (.cells #[.func (.func 95) #[] #[], .func (.func 96) #[] #[]] 133 (0, 0))) ∧ Aside0 (wc.heap[gb119]? = some (.cells #[.int .i64 x120000_11, .int .u64 x120001_11] 127 (0, 0))) ∧ Aside0 (wc.heap[gb122]? = some (.cells #[.int .u64 x123000_105, .int .u64 x123001_105, .int .u64 t124, .int .u64 x10_27, .bool (!((decide (a0_0 < 0)) == (decide (a1 < 0))))] 132 (0, 0))) ∧ Aside0 (Below w.heap.size w wc))
               case first =>
                have H := HC143.out
                clear HC143
                by_cases c148 : (!((decide (a0_0 < 0)) == (decide (a1 < 0)))) = true
                ·rw [if_pos c148] at H
                 have c148b0 : (!((decide (a0_0 < 0)) == (decide (a1 < 0)))) = true := c148
                 clear c148
                 (first | rw [c148b0] | (simp only [i64_w, i32_w]; rw [c148b0]) | skip)
                 have H' := Aside0.mk H
                 clear H
                 have hnb149 := NB122_117.out
                 have hnc149 := NB117_122.out
                 have hnb150 := NB122_118.out
                 have hnc150 := NB118_122.out
                 have hnb151 := NB122_119.out
                 have hnc151 := NB119_122.out
                 have hcz152_0 : wc.cell? ⟨gb122, 0, none⟩ = some (.int .u64 x123000_105) := (blk_cell BK122.out 0).trans rfl
                 have hcz152_1 : wc.cell? ⟨gb122, 1, none⟩ = some (.int .u64 x123001_105) := (blk_cell BK122.out 1).trans rfl
                 have hcz152_2 : wc.cell? ⟨gb122, 2, none⟩ = some (.int .u64 t124) := (blk_cell BK122.out 2).trans rfl
                 have hcz152_3 : wc.cell? ⟨gb122, 3, none⟩ = some (.int .u64 x10_27) := (blk_cell BK122.out 3).trans rfl
                 have hcz152_4 : wc.cell? ⟨gb122, 4, none⟩ = some (.bool (!((decide (a0_0 < 0)) == (decide (a1 < 0))))) := (blk_cell BK122.out 4).trans rfl
                 have hfz152_0 := blk_frozen BK122.out 0
                 have hfz152_1 := blk_frozen BK122.out 1
                 have hfz152_2 := blk_frozen BK122.out 2
                 have hfz152_3 := blk_frozen BK122.out 3
                 have hfz152_4 := blk_frozen BK122.out 4
                 go_wp2
                 go_meet
                 case rel => exact ⟨_, (decide (x123001_105 ≤ 9223372036854775808)), (by first | rfl | (simp; done) | (simp [*]; done)), H', ⟨by have := HJ3.out; have := HJ11.out; have := HJ27.out; have := HJ105.out; first | omega | exact Nat.le_refl _⟩, ⟨by (with_reducible repeat (first | refine blk_drewN ?_ _ | refine blk_drew ?_ | refine blk_alloc ?_ _)); exact BK117.out⟩, ⟨by (with_reducible repeat (first | refine blk_drewN ?_ _ | refine blk_drew ?_ | refine blk_alloc ?_ _)); exact BK118.out⟩, ⟨by (with_reducible repeat (first | refine blk_drewN ?_ _ | refine blk_drew ?_ | refine blk_alloc ?_ _)); exact BK119.out⟩, ⟨by (with_reducible repeat (first | refine blk_drewN ?_ _ | refine blk_drew ?_ | refine blk_alloc ?_ _)); exact BK122.out⟩, ⟨by repeat (first | (with_reducible first | exact HB.out | apply below_alloc | apply pw_below_drewN | apply below_drew1 | refine below_set ?_ GE117.out | refine below_set ?_ GE118.out | refine below_set ?_ GE119.out | refine below_set ?_ GE122.out) | exact HB.out)⟩⟩
                ·rw [if_neg c148] at H
                 have c148b0 : (!((decide (a0_0 < 0)) == (decide (a1 < 0)))) = false := by simpa using c148
                 clear c148
                 (first | rw [c148b0] | (simp only [i64_w, i32_w]; rw [c148b0]) | skip)
                 have H' := Aside0.mk H
                 clear H
                 have hnb153 := NB122_117.out
                 have hnc153 := NB117_122.out
                 have hnb154 := NB122_118.out
                 have hnc154 := NB118_122.out
                 have hnb155 := NB122_119.out
                 have hnc155 := NB119_122.out
                 have hcz156_0 : wc.cell? ⟨gb122, 0, none⟩ = some (.int .u64 x123000_105) := (blk_cell BK122.out 0).trans rfl
                 have hcz156_1 : wc.cell? ⟨gb122, 1, none⟩ = some (.int .u64 x123001_105) := (blk_cell BK122.out 1).trans rfl
                 have hcz156_2 : wc.cell? ⟨gb122, 2, none⟩ = some (.int .u64 t124) := (blk_cell BK122.out 2).trans rfl
                 have hcz156_3 : wc.cell? ⟨gb122, 3, none⟩ = some (.int .u64 x10_27) := (blk_cell BK122.out 3).trans rfl
                 have hcz156_4 : wc.cell? ⟨gb122, 4, none⟩ = some (.bool (!((decide (a0_0 < 0)) == (decide (a1 < 0))))) := (blk_cell BK122.out 4).trans rfl
                 have hfz156_0 := blk_frozen BK122.out 0
                 have hfz156_1 := blk_frozen BK122.out 1
                 have hfz156_2 := blk_frozen BK122.out 2
                 have hfz156_3 := blk_frozen BK122.out 3
                 have hfz156_4 := blk_frozen BK122.out 4
                 go_wp2
                 go_meet
                 case rel => exact ⟨_, (false), (by first | rfl | (simp; done) | (simp [*]; done)), H', ⟨by have := HJ3.out; have := HJ11.out; have := HJ27.out; have := HJ105.out; first | omega | exact Nat.le_refl _⟩, ⟨by (with_reducible repeat (first | refine blk_drewN ?_ _ | refine blk_drew ?_ | refine blk_alloc ?_ _)); exact BK117.out⟩, ⟨by (with_reducible repeat (first | refine blk_drewN ?_ _ | refine blk_drew ?_ | refine blk_alloc ?_ _)); exact BK118.out⟩, ⟨by (with_reducible repeat (first | refine blk_drewN ?_ _ | refine blk_drew ?_ | refine blk_alloc ?_ _)); exact BK119.out⟩, ⟨by (with_reducible repeat (first | refine blk_drewN ?_ _ | refine blk_drew ?_ | refine blk_alloc ?_ _)); exact BK122.out⟩, ⟨by repeat (first | (with_reducible first | exact HB.out | apply below_alloc | apply pw_below_drewN | apply below_drew1 | refine below_set ?_ GE117.out | refine below_set ?_ GE118.out | refine below_set ?_ GE119.out | refine below_set ?_ GE122.out) | exact HB.out)⟩⟩
               case rest =>
                clear HC143
                try clear c1; try clear hx1; try clear p2; try clear c3; try clear c6; try clear p6; try clear c7; try clear c8; try clear c9; try clear c10; try clear c11; try clear c12; try clear hx12; try clear c13; try clear hx13; try clear c14; try clear c15; try clear c32; try clear c32b0; try clear c32b1; try clear c64; try clear p64; try clear c71; try clear c85; try clear c86; try clear c87; try clear c88; try clear c90; try clear c90b0; try clear c91; try clear c92; try clear c93; try clear c95; try clear c95b0; try clear c96; try clear c97; try clear c98; try clear c100; try clear c101; try clear c102; try clear c104; try clear c104b0; try clear c104b1; try clear c107; try clear c108; try clear c111; try clear c112; try clear c113; try clear c121; try clear hx129; try clear c131; try clear c132; try clear c132b0; try clear c132b1; try clear c133; try clear c134; try clear c135; try clear hx137; try clear c138; try clear c138b0; try clear c139; try clear c140; try clear c141; try clear c144; try clear c145; try clear c146; try clear c148; try clear c148b0; try clear c149; try clear c150; try clear c151; try clear c153; try clear c154; try clear c155; try clear hcz103_0; try clear hcz103_1; try clear hcz103_2; try clear hcz103_3; try clear hcz103_4; try clear hcz109_0; try clear hcz109_1; try clear hcz114_0; try clear hcz114_1; try clear hcz114_2; try clear hcz114_3; try clear hcz114_4; try clear hcz120_0; try clear hcz120_1; try clear hcz120_2; try clear hcz120_3; try clear hcz120_4; try clear hcz122_0; try clear hcz122_1; try clear hcz123_0; try clear hcz123_1; try clear hcz124_0; try clear hcz124_1; try clear hcz125_0; try clear hcz125_1; try clear hcz126_0; try clear hcz126_1; try clear hcz126_2; try clear hcz126_3; try clear hcz126_4; try clear hcz136_0; try clear hcz136_1; try clear hcz136_2; try clear hcz136_3; try clear hcz136_4; try clear hcz142_0; try clear hcz142_1; try clear hcz142_2; try clear hcz142_3; try clear hcz142_4; try clear hcz147_0; try clear hcz147_1; try clear hcz147_2; try clear hcz147_3; try clear hcz147_4; try clear hcz152_0; try clear hcz152_1; try clear hcz152_2; try clear hcz152_3; try clear hcz152_4; try clear hcz156_0; try clear hcz156_1; try clear hcz156_2; try clear hcz156_3; try clear hcz156_4; try clear hcz42_4; try clear hcz48_0; try clear hcz48_1; try clear hcz48_2; try clear hcz48_3; try clear hcz48_4; try clear hcz50_0; try clear hcz50_1; try clear hcz51_0; try clear hcz51_1; try clear hcz52_0; try clear hcz52_1; try clear hcz53_0; try clear hcz53_1; try clear hcz54_0; try clear hcz54_1; try clear hcz54_2; try clear hcz54_3; try clear hcz54_4; try clear hcz64_0; try clear hcz64_1; try clear hcz64_2; try clear hcz64_3; try clear hcz64_4; try clear hcz70_0; try clear hcz70_1; try clear hcz70_2; try clear hcz70_3; try clear hcz70_4; try clear hcz75_0; try clear hcz75_1; try clear hcz75_2; try clear hcz75_3; try clear hcz75_4; try clear hcz80_0; try clear hcz80_1; try clear hcz80_2; try clear hcz80_3; try clear hcz80_4; try clear hcz84_0; try clear hcz84_1; try clear hcz84_2; try clear hcz84_3; try clear hcz84_4; try clear hcz89_0; try clear hcz89_1; try clear hcz89_2; try clear hcz89_3; try clear hcz89_4; try clear hcz8_0; try clear hcz8_1; try clear hcz94_0; try clear hcz94_1; try clear hcz94_2; try clear hcz94_3; try clear hcz94_4; try clear hcz99_0; try clear hcz99_1; try clear hcz99_2; try clear hcz99_3; try clear hcz99_4; try clear hfz103_0; try clear hfz103_1; try clear hfz103_2; try clear hfz103_3; try clear hfz103_4; try clear hfz109_0; try clear hfz109_1; try clear hfz114_0; try clear hfz114_1; try clear hfz114_2; try clear hfz114_3; try clear hfz114_4; try clear hfz120_0; try clear hfz120_1; try clear hfz120_2; try clear hfz120_3; try clear hfz120_4; try clear hfz122_0; try clear hfz122_1; try clear hfz123_0; try clear hfz123_1; try clear hfz124_0; try clear hfz124_1; try clear hfz125_0; try clear hfz125_1; try clear hfz126_0; try clear hfz126_1; try clear hfz126_2; try clear hfz126_3; try clear hfz126_4; try clear hfz136_0; try clear hfz136_1; try clear hfz136_2; try clear hfz136_3; try clear hfz136_4; try clear hfz142_0; try clear hfz142_1; try clear hfz142_2; try clear hfz142_3; try clear hfz142_4; try clear hfz147_0; try clear hfz147_1; try clear hfz147_2; try clear hfz147_3; try clear hfz147_4; try clear hfz14_0; try clear hfz14_1; try clear hfz152_0; try clear hfz152_1; try clear hfz152_2; try clear hfz152_3; try clear hfz152_4; try clear hfz156_0; try clear hfz156_1; try clear hfz156_2; try clear hfz156_3; try clear hfz156_4; try clear hfz18_0; try clear hfz18_1; try clear hfz19_0; try clear hfz19_1; try clear hfz24_0; try clear hfz24_1; try clear hfz27_0; try clear hfz27_1; try clear hfz37_0; try clear hfz37_1; try clear hfz42_0; try clear hfz42_1; try clear hfz42_2; try clear hfz42_3; try clear hfz42_4; try clear hfz48_0; try clear hfz48_1; try clear hfz48_2; try clear hfz48_3; try clear hfz48_4; try clear hfz50_0; try clear hfz50_1; try clear hfz51_0; try clear hfz51_1; try clear hfz52_0; try clear hfz52_1; try clear hfz53_0; try clear hfz53_1; try clear hfz54_0; try clear hfz54_1; try clear hfz54_2; try clear hfz54_3; try clear hfz54_4; try clear hfz64_0; try clear hfz64_1; try clear hfz64_2; try clear hfz64_3; try clear hfz64_4; try clear hfz70_0; try clear hfz70_1; try clear hfz70_2; try clear hfz70_3; try clear hfz70_4; try clear hfz75_0; try clear hfz75_1; try clear hfz75_2; try clear hfz75_3; try clear hfz75_4; try clear hfz80_0; try clear hfz80_1; try clear hfz80_2; try clear hfz80_3; try clear hfz80_4; try clear hfz84_0; try clear hfz84_1; try clear hfz84_2; try clear hfz84_3; try clear hfz84_4; try clear hfz89_0; try clear hfz89_1; try clear hfz89_2; try clear hfz89_3; try clear hfz89_4; try clear hfz8_0; try clear hfz8_1; try clear hfz94_0; try clear hfz94_1; try clear hfz94_2; try clear hfz94_3; try clear hfz94_4; try clear hfz99_0; try clear hfz99_1; try clear hfz99_2; try clear hfz99_3; try clear hfz99_4; try clear p2; try clear p6; try clear p64
                obtain ⟨kq, x90_142, rfl, HA, HJ142, BK117, BK118, BK119, BK122, HB⟩ := hcut
                cases kq with
                | zero => exact absurd HA.out (by simp [wide_Div.j6])
                | succ kj142 =>
                 have H := HA.out
                 clear HA
                 simp only [wide_Div.j6] at H
                 by_cases c157 : x90_142 = true
                 ·subst c157
                  have H1 : (some (wrap64 (IntKind.u64.wrap (-x123001_105)), 0)) = some (r1, r2) := by rw [if_pos rfl] at H; exact H
                  clear H
                  have H := H1
                  clear H1
                  simp only [Option.some.injEq, Prod.mk.injEq] at H
                  obtain ⟨rfl, rfl⟩ := H
                  have hnb158 := NB122_117.out
                  have hnc158 := NB117_122.out
                  have hnb159 := NB122_118.out
                  have hnc159 := NB118_122.out
                  have hnb160 := NB122_119.out
                  have hnc160 := NB119_122.out
                  have hcz161_0 : wc.cell? ⟨gb122, 0, none⟩ = some (.int .u64 x123000_105) := (blk_cell BK122.out 0).trans rfl
                  have hcz161_1 : wc.cell? ⟨gb122, 1, none⟩ = some (.int .u64 x123001_105) := (blk_cell BK122.out 1).trans rfl
                  have hcz161_2 : wc.cell? ⟨gb122, 2, none⟩ = some (.int .u64 t124) := (blk_cell BK122.out 2).trans rfl
                  have hcz161_3 : wc.cell? ⟨gb122, 3, none⟩ = some (.int .u64 x10_27) := (blk_cell BK122.out 3).trans rfl
                  have hcz161_4 : wc.cell? ⟨gb122, 4, none⟩ = some (.bool (!((decide (a0_0 < 0)) == (decide (a1 < 0))))) := (blk_cell BK122.out 4).trans rfl
                  have hfz161_0 := blk_frozen BK122.out 0
                  have hfz161_1 := blk_frozen BK122.out 1
                  have hfz161_2 := blk_frozen BK122.out 2
                  have hfz161_3 := blk_frozen BK122.out 3
                  have hfz161_4 := blk_frozen BK122.out 4
                  go_wp2
                  go_ret2
                  exact ⟨by first | rfl | (simp [errW_none, errW_some] <;> rfl) | (simp [*, errW_none, errW_some] <;> rfl), by repeat (first | (with_reducible first | exact HB.out | apply below_alloc | apply pw_below_drewN | apply below_drew1 | refine below_set ?_ GE117.out | refine below_set ?_ GE118.out | refine below_set ?_ GE119.out | refine below_set ?_ GE122.out) | exact HB.out)⟩
                 ·replace c157 := Bool.eq_false_iff.mpr c157
                  subst c157
                  have H1 : (if (!((decide (a0_0 < 0)) == (decide (a1 < 0)))) = true then (some (0, 3)) else (if x123001_105 < 9223372036854775808 then (some (wrap64 (x123001_105), 0)) else (some (0, 3)))) = some (r1, r2) := by rw [if_neg (show ¬ (false = true) by decide)] at H; exact H
                  clear H
                  have H := H1
                  clear H1
                  by_cases c162 : (!((decide (a0_0 < 0)) == (decide (a1 < 0)))) = true
                  ·rw [if_pos c162] at H
                   have c162b0 : (!((decide (a0_0 < 0)) == (decide (a1 < 0)))) = true := c162
                   clear c162
                   simp only [Option.some.injEq, Prod.mk.injEq] at H
                   obtain ⟨rfl, rfl⟩ := H
                   have hnb163 := NB122_117.out
                   have hnc163 := NB117_122.out
                   have hnb164 := NB122_118.out
                   have hnc164 := NB118_122.out
                   have hnb165 := NB122_119.out
                   have hnc165 := NB119_122.out
                   have hcz166_0 : wc.cell? ⟨gb122, 0, none⟩ = some (.int .u64 x123000_105) := (blk_cell BK122.out 0).trans rfl
                   have hcz166_1 : wc.cell? ⟨gb122, 1, none⟩ = some (.int .u64 x123001_105) := (blk_cell BK122.out 1).trans rfl
                   have hcz166_2 : wc.cell? ⟨gb122, 2, none⟩ = some (.int .u64 t124) := (blk_cell BK122.out 2).trans rfl
                   have hcz166_3 : wc.cell? ⟨gb122, 3, none⟩ = some (.int .u64 x10_27) := (blk_cell BK122.out 3).trans rfl
                   have hcz166_4 : wc.cell? ⟨gb122, 4, none⟩ = some (.bool (!((decide (a0_0 < 0)) == (decide (a1 < 0))))) := (blk_cell BK122.out 4).trans rfl
                   have hfz166_0 := blk_frozen BK122.out 0
                   have hfz166_1 := blk_frozen BK122.out 1
                   have hfz166_2 := blk_frozen BK122.out 2
                   have hfz166_3 := blk_frozen BK122.out 3
                   have hfz166_4 := blk_frozen BK122.out 4
                   go_wp2
                   go_ret2
                   exact ⟨by first | rfl | (simp [errW_none, errW_some] <;> rfl) | (simp [*, errW_none, errW_some] <;> rfl), by repeat (first | (with_reducible first | exact HB.out | apply below_alloc | apply pw_below_drewN | apply below_drew1 | refine below_set ?_ GE117.out | refine below_set ?_ GE118.out | refine below_set ?_ GE119.out | refine below_set ?_ GE122.out) | exact HB.out)⟩
                  ·rw [if_neg c162] at H
                   have c162b0 : (!((decide (a0_0 < 0)) == (decide (a1 < 0)))) = false := by simpa using c162
                   clear c162
                   by_cases c167 : x123001_105 < 9223372036854775808
                   ·rw [if_pos c167] at H
                    have c167b0 : decide (x123001_105 < 9223372036854775808) = true := decide_eq_true c167
                    clear c167
                    simp only [Option.some.injEq, Prod.mk.injEq] at H
                    obtain ⟨rfl, rfl⟩ := H
                    have hnb168 := NB122_117.out
                    have hnc168 := NB117_122.out
                    have hnb169 := NB122_118.out
                    have hnc169 := NB118_122.out
                    have hnb170 := NB122_119.out
                    have hnc170 := NB119_122.out
                    have hcz171_0 : wc.cell? ⟨gb122, 0, none⟩ = some (.int .u64 x123000_105) := (blk_cell BK122.out 0).trans rfl
                    have hcz171_1 : wc.cell? ⟨gb122, 1, none⟩ = some (.int .u64 x123001_105) := (blk_cell BK122.out 1).trans rfl
                    have hcz171_2 : wc.cell? ⟨gb122, 2, none⟩ = some (.int .u64 t124) := (blk_cell BK122.out 2).trans rfl
                    have hcz171_3 : wc.cell? ⟨gb122, 3, none⟩ = some (.int .u64 x10_27) := (blk_cell BK122.out 3).trans rfl
                    have hcz171_4 : wc.cell? ⟨gb122, 4, none⟩ = some (.bool (!((decide (a0_0 < 0)) == (decide (a1 < 0))))) := (blk_cell BK122.out 4).trans rfl
                    have hfz171_0 := blk_frozen BK122.out 0
                    have hfz171_1 := blk_frozen BK122.out 1
                    have hfz171_2 := blk_frozen BK122.out 2
                    have hfz171_3 := blk_frozen BK122.out 3
                    have hfz171_4 := blk_frozen BK122.out 4
                    go_wp2
                    go_ret2
                    exact ⟨by first | rfl | (simp [errW_none, errW_some] <;> rfl) | (simp [*, errW_none, errW_some] <;> rfl), by repeat (first | (with_reducible first | exact HB.out | apply below_alloc | apply pw_below_drewN | apply below_drew1 | refine below_set ?_ GE117.out | refine below_set ?_ GE118.out | refine below_set ?_ GE119.out | refine below_set ?_ GE122.out) | exact HB.out)⟩
                   ·rw [if_neg c167] at H
                    have c167b0 : decide (x123001_105 < 9223372036854775808) = false := decide_eq_false c167
                    clear c167
                    simp only [Option.some.injEq, Prod.mk.injEq] at H
                    obtain ⟨rfl, rfl⟩ := H
                    have hnb172 := NB122_117.out
                    have hnc172 := NB117_122.out
                    have hnb173 := NB122_118.out
                    have hnc173 := NB118_122.out
                    have hnb174 := NB122_119.out
                    have hnc174 := NB119_122.out
                    have hcz175_0 : wc.cell? ⟨gb122, 0, none⟩ = some (.int .u64 x123000_105) := (blk_cell BK122.out 0).trans rfl
                    have hcz175_1 : wc.cell? ⟨gb122, 1, none⟩ = some (.int .u64 x123001_105) := (blk_cell BK122.out 1).trans rfl
                    have hcz175_2 : wc.cell? ⟨gb122, 2, none⟩ = some (.int .u64 t124) := (blk_cell BK122.out 2).trans rfl
                    have hcz175_3 : wc.cell? ⟨gb122, 3, none⟩ = some (.int .u64 x10_27) := (blk_cell BK122.out 3).trans rfl
                    have hcz175_4 : wc.cell? ⟨gb122, 4, none⟩ = some (.bool (!((decide (a0_0 < 0)) == (decide (a1 < 0))))) := (blk_cell BK122.out 4).trans rfl
                    have hfz175_0 := blk_frozen BK122.out 0
                    have hfz175_1 := blk_frozen BK122.out 1
                    have hfz175_2 := blk_frozen BK122.out 2
                    have hfz175_3 := blk_frozen BK122.out 3
                    have hfz175_4 := blk_frozen BK122.out 4
                    go_wp2
                    go_ret2
                    exact ⟨by first | rfl | (simp [errW_none, errW_some] <;> rfl) | (simp [*, errW_none, errW_some] <;> rfl), by repeat (first | (with_reducible first | exact HB.out | apply below_alloc | apply pw_below_drewN | apply below_drew1 | refine below_set ?_ GE117.out | refine below_set ?_ GE118.out | refine below_set ?_ GE119.out | refine below_set ?_ GE122.out) | exact HB.out)⟩
           ·rw [if_neg c104] at H
            exact absurd H (by simp)
end Go.Proofs.Ytjgleaakgbnjgaa.S
