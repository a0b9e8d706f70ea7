/- Printed by a program of this session out of the translation: what each function called here computes, and that its call comes to just that. Conditions: none beyond those that each theorem names. -/
import Derived.Test.YtalnlphinlfenaaSx0
import Derived.Test.YtalnlphinlfenaaSxTableRoll1
namespace Go.Proofs.Ytalnlphinlfenaa.S
open Go.RowKit Go.Proofs.YtalnlphinlfenaaW.PrintWords Go.Proofs.YtalnlphinlfenaaW.PrintLast Go.Proofs.YtalnlphinlfenaaW.PrintMore
attribute [local go_sem] max2_int min2_int max_two min_two max_three min_three max_four min_four   -- for this text's walks alone
attribute [local go_sem] Go.Proofs.Ytalnlphinlfenaa.XWalk.cell2
set_option linter.unusedVariables false
set_option linter.unusedSimpArgs false

/-! ### table_scan_int64_table_Row__table_Roll_1: function 31 -/
def table_scan_int64_table_Row__table_Roll_1.l0 : Nat → List (S37) → List Int → Int → Int → List Int → Int → Int → Int → Int → Int → Option ((List (S37)) × Int)
  | 0, _, _, _, _, _, _, _, _, _, _ => none
  | k + 1, x8, x15, x16, x17, x162000, x163000, x165000, x165001, x165002, x165003 => if x17 < x16 then (if 0 ≤ x17 then (if x17 < (x15.length : Int) then ((table_Roll_1.f k x165000 x165001 x165002 x165003 x17 (rd x15 x17) x162000 x163000).bind fun bt166 => (if bt166.2.2.2.2 = 0 then (if x8.length < 4398046511104 then (table_scan_int64_table_Row__table_Roll_1.l0 k (x8 ++ [(⟨bt166.1, bt166.2.1, bt166.2.2.1, bt166.2.2.2.1⟩ : S37)]) x15 x16 (wrap64 (x17 + 1)) x162000 x163000 bt166.1 bt166.2.1 bt166.2.2.1 bt166.2.2.2.1) else (none)) else (some (([] : List (S37)), bt166.2.2.2.2)))) else (none)) else (none)) else (some (x8, 0))
def table_scan_int64_table_Row__table_Roll_1.f (k : Nat) (l0 : List Int) (a1_0 : Int) (a1_1 : Int) (a1_2 : Int) (a1_3 : Int) (l2_0_0 : List Int) (a2_1_0 : Int) : Option ((List (S37)) × Int) := table_scan_int64_table_Row__table_Roll_1.l0 k ([] : List (S37)) l0 (l0.length : Int) 0 l2_0_0 a2_1_0 a1_0 a1_1 a1_2 a1_3
theorem table_scan_int64_table_Row__table_Roll_1.mono_l : ∀ k, (∀ y0 y1 y2 y3 y4 y5 y6 y7 y8 y9, LeO (table_scan_int64_table_Row__table_Roll_1.l0 k y0 y1 y2 y3 y4 y5 y6 y7 y8 y9) (table_scan_int64_table_Row__table_Roll_1.l0 (k + 1) y0 y1 y2 y3 y4 y5 y6 y7 y8 y9))
  | 0 => fun _ _ _ _ _ _ _ _ _ _ r h => by simp [table_scan_int64_table_Row__table_Roll_1.l0] at h
  | k + 1 => by
    have ih0 := table_scan_int64_table_Row__table_Roll_1.mono_l k
    · intro y0 y1 y2 y3 y4 y5 y6 y7 y8 y9
      unfold table_scan_int64_table_Row__table_Roll_1.l0
      repeat' first
      | (with_reducible exact ih0 _ _ _ _ _ _ _ _ _ _)
      | (with_reducible exact table_Roll_1.mono _ _ _ _ _ _ _ _ _)
      | (with_reducible exact LeO.refl _)
      | (with_reducible exact LeO.none _)
      | (with_reducible refine LeO.ite ?_ ?_)
      | (with_reducible refine LeO.bind ?_ (fun _ => ?_))
      | exact ih0 _ _ _ _ _ _ _ _ _ _
      | exact table_Roll_1.mono _ _ _ _ _ _ _ _ _
      | exact LeO.none _
      | refine LeO.ite ?_ ?_
      | refine LeO.bind ?_ (fun _ => ?_)
theorem table_scan_int64_table_Row__table_Roll_1.mono : ∀ a0 a1 a2 a3 a4 a5 a6 k, LeO (table_scan_int64_table_Row__table_Roll_1.f k a0 a1 a2 a3 a4 a5 a6) (table_scan_int64_table_Row__table_Roll_1.f (k + 1) a0 a1 a2 a3 a4 a5 a6) := by
  intro a0 a1 a2 a3 a4 a5 a6 k
  have ih0 := table_scan_int64_table_Row__table_Roll_1.mono_l k
  unfold table_scan_int64_table_Row__table_Roll_1.f
  repeat' first
      | (with_reducible exact ih0 _ _ _ _ _ _ _ _ _ _)
      | (with_reducible exact table_Roll_1.mono _ _ _ _ _ _ _ _ _)
      | (with_reducible exact LeO.refl _)
      | (with_reducible exact LeO.none _)
      | (with_reducible refine LeO.ite ?_ ?_)
      | (with_reducible refine LeO.bind ?_ (fun _ => ?_))
      | exact ih0 _ _ _ _ _ _ _ _ _ _
      | exact table_Roll_1.mono _ _ _ _ _ _ _ _ _
      | exact LeO.none _
      | refine LeO.ite ?_ ?_
      | refine LeO.bind ?_ (fun _ => ?_)
set_option maxHeartbeats 8000000 in
set_option maxRecDepth 100000 in
theorem table_scan_int64_table_Row__table_Roll_1.calls (k : Nat) (A0 : Option Addr) (c0 : Nat) (l0 : List Int) (a1_0 : Int) (a1_1 : Int) (a1_2 : Int) (a1_3 : Int) (gc2_0 : Nat) (A2_0_0 : Option Addr) (c2_0_0 : Nat) (l2_0_0 : List Int) (gc2_1 : Nat) (a2_1_0 : Int) (r1 : List (S37)) (r2 : Int) (w : World) (hr0 : Kd.C (Kd.int .i64) w A0 l0.length l0) (hc0 : l0.length ≤ c0) (hgc2_0 : w.heap[gc2_0]? = some (.cells #[.slice A2_0_0 l2_0_0.length c2_0_0] 22 (0, 0))) (hr2_0_0 : Kd.C (Kd.int .i64) w A2_0_0 l2_0_0.length l2_0_0) (hc2_0_0 : l2_0_0.length ≤ c2_0_0) (hgc2_1 : w.heap[gc2_1]? = some (.cells #[.int .i64 a2_1_0] 2 (0, 0))) (h : table_scan_int64_table_Row__table_Roll_1.f k l0 a1_0 a1_1 a1_2 a1_3 l2_0_0 a2_1_0 = some (r1, r2)) :
    Calls Try.prog 31 #[.slice A0 l0.length c0, .agg #[.int .i64 a1_0, .int .i64 a1_1, .int .i64 a1_2, .int .i64 a1_3], .func (.func 32) #[] #[.pointer (some ⟨gc2_0, 0, none⟩), .pointer (some ⟨gc2_1, 0, none⟩)]] w fun e w' => ∃ v0_ : Value, e = .returned (.tuple #[v0_, .int .i64 r2]) ∧ Kd.R k37 37 w' w.heap.size (fun _ => True) v0_ r1 ∧ Below w.heap.size w w' := by
  have hu37 := Try.underlying37
  have HR0 := Aside0.mk hr0
  have HC0 := Aside0.mk hc0
  clear hr0 hc0
  have HR2_0_0 := Aside0.mk hr2_0_0
  have HC2_0_0 := Aside0.mk hc2_0_0
  clear hr2_0_0 hc2_0_0
  have BK161 := Aside0.mk hgc2_0
  clear hgc2_0
  have BK162 := Aside0.mk hgc2_1
  clear hgc2_1
  have HB := Aside0.mk (Below.refl w.heap.size w)
  have H : (table_scan_int64_table_Row__table_Roll_1.l0 k ([] : List (S37)) l0 (l0.length : Int) 0 l2_0_0 a2_1_0 a1_0 a1_1 a1_2 a1_3) = some (r1, r2) := h
  clear h
  have H' := Aside0.mk H
  clear H
  go_enter Try.func31, Try.ntmps31
  go_wp2_with (first | ((with_reducible refine gate_dst (N := 4) rfl ?_); refine box_event ?hg (N := 4) ?hd (cs := #[.int .i64 a1_0, .int .i64 a1_1, .int .i64 a1_2, .int .i64 a1_3]) (t := 37) ?hr ?_; (case hd => rfl); (case hg => rfl); (case hr => first | (go_simp; done) | (go_simp; rfl)); intro gb163 hg w4 hbox hb; have n0_ := Aside0.mk (blk_below (g := gc2_0) (o := .cells #[.slice A2_0_0 l2_0_0.length c2_0_0] 22 (0, 0)) (by (with_reducible repeat (first | refine blk_drewN ?_ _ | refine blk_drew ?_ | refine blk_alloc ?_ _)); exact BK161.out) hb); have n1_ := Aside0.mk (blk_below (g := gc2_1) (o := .cells #[.int .i64 a2_1_0] 2 (0, 0)) (by (with_reducible repeat (first | refine blk_drewN ?_ _ | refine blk_drew ?_ | refine blk_alloc ?_ _)); exact BK162.out) hb); have n2_ := Aside0.mk (below_step (by repeat (first | (with_reducible first | exact HB.out | apply below_alloc | apply pw_below_drewN | apply below_drew1 | refine below_set ?_ GE161.out | refine below_set ?_ GE162.out) | exact HB.out)) hb); have n3_ := Aside0.mk (hbox); have n4_ := Aside0.mk ((by rw [hg]; exact (below_size (by repeat (first | (with_reducible first | exact HB.out | apply below_alloc | apply pw_below_drewN | apply below_drew1 | refine below_set ?_ GE161.out | refine below_set ?_ GE162.out) | exact HB.out))) : w.heap.size ≤ gb163)); have n5_ := Aside0.mk ((by rw [hg]; exact (below_size (by repeat (first | (with_reducible first | exact HB.out | apply below_alloc | apply pw_below_drewN | apply below_drew1 | refine below_set ?_ GE161.out | refine below_set ?_ GE162.out) | exact HB.out))) : w.heap.size ≤ gb163)); have n6_ := Aside0.mk ((by rw [hg]; exact Nat.ne_of_lt (blk_lt (g := gc2_0) (o := .cells #[.slice A2_0_0 l2_0_0.length c2_0_0] 22 (0, 0)) (by (with_reducible repeat (first | refine blk_drewN ?_ _ | refine blk_drew ?_ | refine blk_alloc ?_ _)); exact BK161.out)) : gc2_0 ≠ gb163)); have n7_ := Aside0.mk ((by rw [hg]; exact Nat.ne_of_gt (blk_lt (g := gc2_0) (o := .cells #[.slice A2_0_0 l2_0_0.length c2_0_0] 22 (0, 0)) (by (with_reducible repeat (first | refine blk_drewN ?_ _ | refine blk_drew ?_ | refine blk_alloc ?_ _)); exact BK161.out)) : gb163 ≠ gc2_0)); have n8_ := Aside0.mk ((by rw [hg]; exact Nat.ne_of_lt (blk_lt (g := gc2_1) (o := .cells #[.int .i64 a2_1_0] 2 (0, 0)) (by (with_reducible repeat (first | refine blk_drewN ?_ _ | refine blk_drew ?_ | refine blk_alloc ?_ _)); exact BK162.out)) : gc2_1 ≠ gb163)); have n9_ := Aside0.mk ((by rw [hg]; exact Nat.ne_of_gt (blk_lt (g := gc2_1) (o := .cells #[.int .i64 a2_1_0] 2 (0, 0)) (by (with_reducible repeat (first | refine blk_drewN ?_ _ | refine blk_drew ?_ | refine blk_alloc ?_ _)); exact BK162.out)) : gb163 ≠ gc2_1)); clear BK161; clear BK162; clear HB; have BK161 := n0_; have BK162 := n1_; have HB := n2_; have BK163 := n3_; have GW163 := n4_; have GE163 := n5_; have NB161_163 := n6_; have NB163_161 := n7_; have NB162_163 := n8_; have NB163_162 := n9_; clear n0_ n1_ n2_ n3_ n4_ n5_ n6_ n7_ n8_ n9_; clear hb hbox hg; have hnb5 := NB163_161.out; have hnc5 := NB161_163.out; have hnb6 := NB163_162.out; have hnc6 := NB162_163.out; have hcz7_0 : w4.cell? ⟨gb163, 0, none⟩ = some (.int .i64 a1_0) := (blk_cell BK163.out 0).trans rfl; have hcz7_1 : w4.cell? ⟨gb163, 1, none⟩ = some (.int .i64 a1_1) := (blk_cell BK163.out 1).trans rfl; have hcz7_2 : w4.cell? ⟨gb163, 2, none⟩ = some (.int .i64 a1_2) := (blk_cell BK163.out 2).trans rfl; have hcz7_3 : w4.cell? ⟨gb163, 3, none⟩ = some (.int .i64 a1_3) := (blk_cell BK163.out 3).trans rfl; have hfz7_0 := blk_frozen BK163.out 0; have hfz7_1 := blk_frozen BK163.out 1; have hfz7_2 := blk_frozen BK163.out 2; have hfz7_3 := blk_frozen BK163.out 3) | ((with_reducible refine gate_dst (N := 9) rfl ?_); refine box_event ?hg (N := 9) ?hd (cs := #[.int .i64 0, .int .i64 0, .int .i64 0, .int .i64 0]) (t := 37) ?hr ?_; (case hd => rfl); (case hg => rfl); (case hr => first | (go_simp; done) | (go_simp; rfl)); intro gb164 hg w8 hbox hb; have n0_ := Aside0.mk (blk_below (g := gc2_0) (o := .cells #[.slice A2_0_0 l2_0_0.length c2_0_0] 22 (0, 0)) (by (with_reducible repeat (first | refine blk_drewN ?_ _ | refine blk_drew ?_ | refine blk_alloc ?_ _)); exact BK161.out) hb); have n1_ := Aside0.mk (blk_below (g := gc2_1) (o := .cells #[.int .i64 a2_1_0] 2 (0, 0)) (by (with_reducible repeat (first | refine blk_drewN ?_ _ | refine blk_drew ?_ | refine blk_alloc ?_ _)); exact BK162.out) hb); have n2_ := Aside0.mk (blk_below (g := gb163) (o := .cells #[.int .i64 a1_0, .int .i64 a1_1, .int .i64 a1_2, .int .i64 a1_3] 37 (0, 0)) (by (with_reducible repeat (first | refine blk_drewN ?_ _ | refine blk_drew ?_ | refine blk_alloc ?_ _)); exact BK163.out) hb); have n3_ := Aside0.mk (below_step (by repeat (first | (with_reducible first | exact HB.out | apply below_alloc | apply pw_below_drewN | apply below_drew1 | refine below_set ?_ GE161.out | refine below_set ?_ GE162.out | refine below_set ?_ GE163.out) | exact HB.out)) hb); have n4_ := Aside0.mk (hbox); have n5_ := Aside0.mk ((by rw [hg]; exact (below_size (by repeat (first | (with_reducible first | exact HB.out | apply below_alloc | apply pw_below_drewN | apply below_drew1 | refine below_set ?_ GE161.out | refine below_set ?_ GE162.out | refine below_set ?_ GE163.out) | exact HB.out))) : w.heap.size ≤ gb164)); have n6_ := Aside0.mk ((by rw [hg]; exact (below_size (by repeat (first | (with_reducible first | exact HB.out | apply below_alloc | apply pw_below_drewN | apply below_drew1 | refine below_set ?_ GE161.out | refine below_set ?_ GE162.out | refine below_set ?_ GE163.out) | exact HB.out))) : w.heap.size ≤ gb164)); have n7_ := Aside0.mk ((by rw [hg]; exact Nat.ne_of_lt (blk_lt (g := gc2_0) (o := .cells #[.slice A2_0_0 l2_0_0.length c2_0_0] 22 (0, 0)) (by (with_reducible repeat (first | refine blk_drewN ?_ _ | refine blk_drew ?_ | refine blk_alloc ?_ _)); exact BK161.out)) : gc2_0 ≠ gb164)); have n8_ := Aside0.mk ((by rw [hg]; exact Nat.ne_of_gt (blk_lt (g := gc2_0) (o := .cells #[.slice A2_0_0 l2_0_0.length c2_0_0] 22 (0, 0)) (by (with_reducible repeat (first | refine blk_drewN ?_ _ | refine blk_drew ?_ | refine blk_alloc ?_ _)); exact BK161.out)) : gb164 ≠ gc2_0)); have n9_ := Aside0.mk ((by rw [hg]; exact Nat.ne_of_lt (blk_lt (g := gc2_1) (o := .cells #[.int .i64 a2_1_0] 2 (0, 0)) (by (with_reducible repeat (first | refine blk_drewN ?_ _ | refine blk_drew ?_ | refine blk_alloc ?_ _)); exact BK162.out)) : gc2_1 ≠ gb164)); have n10_ := Aside0.mk ((by rw [hg]; exact Nat.ne_of_gt (blk_lt (g := gc2_1) (o := .cells #[.int .i64 a2_1_0] 2 (0, 0)) (by (with_reducible repeat (first | refine blk_drewN ?_ _ | refine blk_drew ?_ | refine blk_alloc ?_ _)); exact BK162.out)) : gb164 ≠ gc2_1)); have n11_ := Aside0.mk ((by rw [hg]; exact Nat.ne_of_lt (blk_lt (g := gb163) (o := .cells #[.int .i64 a1_0, .int .i64 a1_1, .int .i64 a1_2, .int .i64 a1_3] 37 (0, 0)) (by (with_reducible repeat (first | refine blk_drewN ?_ _ | refine blk_drew ?_ | refine blk_alloc ?_ _)); exact BK163.out)) : gb163 ≠ gb164)); have n12_ := Aside0.mk ((by rw [hg]; exact Nat.ne_of_gt (blk_lt (g := gb163) (o := .cells #[.int .i64 a1_0, .int .i64 a1_1, .int .i64 a1_2, .int .i64 a1_3] 37 (0, 0)) (by (with_reducible repeat (first | refine blk_drewN ?_ _ | refine blk_drew ?_ | refine blk_alloc ?_ _)); exact BK163.out)) : gb164 ≠ gb163)); clear BK161; clear BK162; clear BK163; clear HB; have BK161 := n0_; have BK162 := n1_; have BK163 := n2_; have HB := n3_; have BK164 := n4_; have GW164 := n5_; have GE164 := n6_; have NB161_164 := n7_; have NB164_161 := n8_; have NB162_164 := n9_; have NB164_162 := n10_; have NB163_164 := n11_; have NB164_163 := n12_; clear n0_ n1_ n2_ n3_ n4_ n5_ n6_ n7_ n8_ n9_ n10_ n11_ n12_; clear hb hbox hg; have hnb9 := NB164_161.out; have hnc9 := NB161_164.out; have hnb10 := NB164_162.out; have hnc10 := NB162_164.out; have hnb11 := NB164_163.out; have hnc11 := NB163_164.out; have hcz12_0 : w8.cell? ⟨gb164, 0, none⟩ = some (.int .i64 0) := (blk_cell BK164.out 0).trans rfl; have hcz12_1 : w8.cell? ⟨gb164, 1, none⟩ = some (.int .i64 0) := (blk_cell BK164.out 1).trans rfl; have hcz12_2 : w8.cell? ⟨gb164, 2, none⟩ = some (.int .i64 0) := (blk_cell BK164.out 2).trans rfl; have hcz12_3 : w8.cell? ⟨gb164, 3, none⟩ = some (.int .i64 0) := (blk_cell BK164.out 3).trans rfl; have hfz12_0 := blk_frozen BK164.out 0; have hfz12_1 := blk_frozen BK164.out 1; have hfz12_2 := blk_frozen BK164.out 2; have hfz12_3 := blk_frozen BK164.out 3))
  go_loopg [8, 17] k (fun kq v8 v17 w' => ∃ (x8_1 : List (S37)) (x17_1 : Int) (x165000_1 : Int) (x165001_1 : Int) (x165002_1 : Int) (x165003_1 : Int), v17 = .int .i64 x17_1 ∧ Aside0 (table_scan_int64_table_Row__table_Roll_1.l0 kq x8_1 l0 (l0.length : Int) x17_1 l2_0_0 a2_1_0 x165000_1 x165001_1 x165002_1 x165003_1 = some (r1, r2)) ∧ Aside0 (kq ≤ k) ∧ Aside0 (Kd.R k37 37 w' w.heap.size (fun k_ => k_ ≠ gb163 ∧ k_ ≠ gb164) v8 x8_1) ∧ Aside0 (w'.heap[gc2_0]? = some (.cells #[(.slice A2_0_0 l2_0_0.length c2_0_0)] 22 (0, 0))) ∧ Aside0 (w'.heap[gc2_1]? = some (.cells #[.int .i64 a2_1_0] 2 (0, 0))) ∧ Aside0 (w'.heap[gb163]? = some (.cells #[.int .i64 a1_0, .int .i64 a1_1, .int .i64 a1_2, .int .i64 a1_3] 37 (0, 0))) ∧ Aside0 (w'.heap[gb164]? = some (.cells #[.int .i64 x165000_1, .int .i64 x165001_1, .int .i64 x165002_1, .int .i64 x165003_1] 37 (0, 0))) ∧ Aside0 (Below w.heap.size w w'))
  case atStart => exact ⟨(([] : List (S37))), (0), (a1_0), (a1_1), (a1_2), (a1_3), (by first | rfl | (simp; done) | (simp [*]; done)), H', ⟨Nat.le_refl _⟩, ⟨by first | exact Kd.R_nil _ _ _ _ _ | exact Kd.N_nil _ _ _ _ _ | exact Kd.V_nil _ _ _ _ _ | exact Kd.Q_nil _ _ _ _ _ | exact Kd.S_nil _ _ _ _ _⟩, ⟨by (with_reducible repeat (first | refine blk_drewN ?_ _ | refine blk_drew ?_ | refine blk_alloc ?_ _)); refine blk_far ?_ NB161_164.out _; (with_reducible repeat (first | refine blk_drewN ?_ _ | refine blk_drew ?_ | refine blk_alloc ?_ _)); refine blk_far ?_ NB161_164.out _; (with_reducible repeat (first | refine blk_drewN ?_ _ | refine blk_drew ?_ | refine blk_alloc ?_ _)); refine blk_far ?_ NB161_164.out _; (with_reducible repeat (first | refine blk_drewN ?_ _ | refine blk_drew ?_ | refine blk_alloc ?_ _)); refine blk_far ?_ NB161_164.out _; (with_reducible repeat (first | refine blk_drewN ?_ _ | refine blk_drew ?_ | refine blk_alloc ?_ _)); exact BK161.out⟩, ⟨by (with_reducible repeat (first | refine blk_drewN ?_ _ | refine blk_drew ?_ | refine blk_alloc ?_ _)); refine blk_far ?_ NB162_164.out _; (with_reducible repeat (first | refine blk_drewN ?_ _ | refine blk_drew ?_ | refine blk_alloc ?_ _)); refine blk_far ?_ NB162_164.out _; (with_reducible repeat (first | refine blk_drewN ?_ _ | refine blk_drew ?_ | refine blk_alloc ?_ _)); refine blk_far ?_ NB162_164.out _; (with_reducible repeat (first | refine blk_drewN ?_ _ | refine blk_drew ?_ | refine blk_alloc ?_ _)); refine blk_far ?_ NB162_164.out _; (with_reducible repeat (first | refine blk_drewN ?_ _ | refine blk_drew ?_ | refine blk_alloc ?_ _)); exact BK162.out⟩, ⟨by (with_reducible repeat (first | refine blk_drewN ?_ _ | refine blk_drew ?_ | refine blk_alloc ?_ _)); refine blk_far ?_ NB163_164.out _; (with_reducible repeat (first | refine blk_drewN ?_ _ | refine blk_drew ?_ | refine blk_alloc ?_ _)); refine blk_far ?_ NB163_164.out _; (with_reducible repeat (first | refine blk_drewN ?_ _ | refine blk_drew ?_ | refine blk_alloc ?_ _)); refine blk_far ?_ NB163_164.out _; (with_reducible repeat (first | refine blk_drewN ?_ _ | refine blk_drew ?_ | refine blk_alloc ?_ _)); refine blk_far ?_ NB163_164.out _; (with_reducible repeat (first | refine blk_drewN ?_ _ | refine blk_drew ?_ | refine blk_alloc ?_ _)); exact BK163.out⟩, ⟨by (with_reducible repeat (first | refine blk_drewN ?_ _ | refine blk_drew ?_ | refine blk_alloc ?_ _)); refine blk_put (cs := #[.int .i64 a1_0, .int .i64 a1_1, .int .i64 a1_2, .int .i64 0]) ?_ 3 _ rfl; (with_reducible repeat (first | refine blk_drewN ?_ _ | refine blk_drew ?_ | refine blk_alloc ?_ _)); refine blk_put (cs := #[.int .i64 a1_0, .int .i64 a1_1, .int .i64 0, .int .i64 0]) ?_ 2 _ rfl; (with_reducible repeat (first | refine blk_drewN ?_ _ | refine blk_drew ?_ | refine blk_alloc ?_ _)); refine blk_put (cs := #[.int .i64 a1_0, .int .i64 0, .int .i64 0, .int .i64 0]) ?_ 1 _ rfl; (with_reducible repeat (first | refine blk_drewN ?_ _ | refine blk_drew ?_ | refine blk_alloc ?_ _)); refine blk_put (cs := #[.int .i64 0, .int .i64 0, .int .i64 0, .int .i64 0]) ?_ 0 _ rfl; (with_reducible repeat (first | refine blk_drewN ?_ _ | refine blk_drew ?_ | refine blk_alloc ?_ _)); exact BK164.out⟩, ⟨by repeat (first | (with_reducible first | exact HB.out | apply below_alloc | apply pw_below_drewN | apply below_drew1 | refine below_set ?_ GE161.out | refine below_set ?_ GE162.out | refine below_set ?_ GE163.out | refine below_set ?_ GE164.out) | exact HB.out)⟩⟩
  case round =>
    clear H'
    try clear c1
    try clear c2
    try clear p2
    try clear c5
    try clear c6
    try clear c7
    try clear c9
    try clear c10
    try clear c11
    try clear hcz12_0
    try clear hcz12_1
    try clear hcz12_2
    try clear hcz12_3
    try clear hcz7_0
    try clear hcz7_1
    try clear hcz7_2
    try clear hcz7_3
    try clear hfz12_0
    try clear hfz12_1
    try clear hfz12_2
    try clear hfz12_3
    try clear hfz7_0
    try clear hfz7_1
    try clear hfz7_2
    try clear hfz7_3
    obtain ⟨x8_1, x17_1, x165000_1, x165001_1, x165002_1, x165003_1, rfl, HA, HK1, HO_8, BK161, BK162, BK163, BK164, HB⟩ := hrel
    cases gk with
    | zero => exact absurd HA.out (by simp [table_scan_int64_table_Row__table_Roll_1.l0])
    | succ k1 =>
      have H := HA.out
      clear HA
      simp only [table_scan_int64_table_Row__table_Roll_1.l0] at H
      by_cases c13 : x17_1 < (l0.length : Int)
      · rw [if_pos c13] at H
        have c13b0 : decide (x17_1 < (l0.length : Int)) = true := decide_eq_true c13
        clear c13
        by_cases c14 : 0 ≤ x17_1
        · rw [if_pos c14] at H
          have c14b0 : decide (0 ≤ x17_1) = true := decide_eq_true c14
          clear c14
          by_cases c15 : x17_1 < (l0.length : Int)
          · rw [if_pos c15] at H
            have c15b0 : decide (x17_1 < (l0.length : Int)) = true := decide_eq_true c15
            clear c15
            replace H := Option.bind_eq_some_iff.mp H
            obtain ⟨⟨t166, t167, t168, t169, t170⟩, A160, H⟩ := H
            replace H : (if t170 = 0 then (if x8_1.length < 4398046511104 then (table_scan_int64_table_Row__table_Roll_1.l0 k1 (x8_1 ++ [(⟨t166, t167, t168, t169⟩ : S37)]) l0 (l0.length : Int) (wrap64 (x17_1 + 1)) l2_0_0 a2_1_0 t166 t167 t168 t169) else (none)) else (some (([] : List (S37)), t170))) = some (r1, r2) := H
            have A16 := Aside0.mk A160
            clear A160
            by_cases c17 : t170 = 0
            · rw [if_pos c17] at H
              have c17b0 : (t170 == 0) = true := beq_iff_eq.mpr c17
              have c17b1 : (t170 != 0) = false := bne_eq_false_iff_eq.mpr c17
              clear c17
              by_cases c18 : x8_1.length < 4398046511104
              · rw [if_pos c18] at H
                have LMc18 := Aside0.mk c18
                clear c18
                obtain ⟨y172, hy172⟩ : ∃ y_ : List (S37), y_ = (x8_1 ++ [(⟨t166, t167, t168, t169⟩ : S37)]) := ⟨_, rfl⟩
                replace H : (table_scan_int64_table_Row__table_Roll_1.l0 k1 y172 l0 (l0.length : Int) (wrap64 (x17_1 + 1)) l2_0_0 a2_1_0 t166 t167 t168 t169) = some (r1, r2) := by first | (rw [hy172]; with_reducible exact H) | (have H2_ := (Option.bind_some _ _).symm.trans H; rw [hy172]; with_reducible exact H2_) | (have H2_ := (Option.bind_some _ _).symm.trans H; with_reducible exact H2_) | with_reducible exact H | (rw [hy172]; exact H) | exact H
                have Ny172 := Aside0.mk hy172
                clear hy172
                have H' := Aside0.mk H
                clear H
                have p165 : 0 ≤ (x17_1 : Int) := of_decide_eq_true (by first | (with_reducible assumption) | assumption)
                have q165 : x17_1 < (l0.length : Int) := of_decide_eq_true (by first | (with_reducible assumption) | assumption)
                obtain ⟨ad165, e165, hx165_0⟩ := Kd.at_int HR0.out x17_1 p165 q165
                cases e165
                try replace hx165_0 := (HB.out.cell (World.block_lt_of_cell? w _ hx165_0)).trans hx165_0
                replace p165 := eq_true p165
                replace q165 := eq_true q165
                have hnb19 := NB164_161.out
                have hnc19 := NB161_164.out
                have hnb20 := NB164_162.out
                have hnc20 := NB162_164.out
                have hnb21 := NB164_163.out
                have hnc21 := NB163_164.out
                have hcz22_0 : wr.cell? ⟨gb164, 0, none⟩ = some (.int .i64 x165000_1) := (blk_cell BK164.out 0).trans rfl
                have hcz22_1 : wr.cell? ⟨gb164, 1, none⟩ = some (.int .i64 x165001_1) := (blk_cell BK164.out 1).trans rfl
                have hcz22_2 : wr.cell? ⟨gb164, 2, none⟩ = some (.int .i64 x165002_1) := (blk_cell BK164.out 2).trans rfl
                have hcz22_3 : wr.cell? ⟨gb164, 3, none⟩ = some (.int .i64 x165003_1) := (blk_cell BK164.out 3).trans rfl
                have hfz22_0 := blk_frozen BK164.out 0
                have hfz22_1 := blk_frozen BK164.out 1
                have hfz22_2 := blk_frozen BK164.out 2
                have hfz22_3 := blk_frozen BK164.out 3
                have hnb23 := NB161_163.out
                have hnc23 := NB163_161.out
                have hcz24_0 : wr.cell? ⟨gc2_0, 0, none⟩ = some (.slice A2_0_0 l2_0_0.length c2_0_0) := (blk_cell BK161.out 0).trans rfl
                have hfz24_0 := blk_frozen BK161.out 0
                have hnb25 := NB162_163.out
                have hnc25 := NB163_162.out
                have hcz26_0 : wr.cell? ⟨gc2_1, 0, none⟩ = some (.int .i64 a2_1_0) := (blk_cell BK162.out 0).trans rfl
                have hfz26_0 := blk_frozen BK162.out 0
                try go_wp2_with (first | (go_at_call 32; (with_reducible refine (table_Roll_1.calls k1 x165000_1 x165001_1 x165002_1 x165003_1 x17_1 (rd l0 x17_1) gc2_0 A2_0_0 c2_0_0 l2_0_0 gc2_1 a2_1_0 t166 t167 t168 t169 t170 _ ?side1 ?side2 ?side3 ?side4 A16.out).mono ?_); (case side1 => (with_reducible repeat (first | refine blk_drewN ?_ _ | refine blk_drew ?_ | refine blk_alloc ?_ _)); exact BK161.out); (case side2 => repeat (first | exact (Kd.C_below HR2_0_0.out HB.out) | (with_reducible refine Kd.C_alloc ?_ _) | (with_reducible refine Kd.C_drewN ?_ _) | (with_reducible refine Kd.C_drew ?_))); (case side3 => exact HC2_0_0.out); (case side4 => (with_reducible repeat (first | refine blk_drewN ?_ _ | refine blk_drew ?_ | refine blk_alloc ?_ _)); exact BK162.out); rintro e w27 ⟨rfl, hb⟩; have n0_ := Aside0.mk (Kd.R_below (by (with_reducible repeat (first | apply Kd.R_alloc | apply Kd.R_drewN | apply Kd.R_drew)); exact HO_8.out) hb); have n1_ := Aside0.mk (blk_below (g := gc2_0) (o := .cells #[.slice A2_0_0 l2_0_0.length c2_0_0] 22 (0, 0)) (by (with_reducible repeat (first | refine blk_drewN ?_ _ | refine blk_drew ?_ | refine blk_alloc ?_ _)); exact BK161.out) hb); have n2_ := Aside0.mk (blk_below (g := gc2_1) (o := .cells #[.int .i64 a2_1_0] 2 (0, 0)) (by (with_reducible repeat (first | refine blk_drewN ?_ _ | refine blk_drew ?_ | refine blk_alloc ?_ _)); exact BK162.out) hb); have n3_ := Aside0.mk (blk_below (g := gb163) (o := .cells #[.int .i64 a1_0, .int .i64 a1_1, .int .i64 a1_2, .int .i64 a1_3] 37 (0, 0)) (by (with_reducible repeat (first | refine blk_drewN ?_ _ | refine blk_drew ?_ | refine blk_alloc ?_ _)); exact BK163.out) hb); have n4_ := Aside0.mk (blk_below (g := gb164) (o := .cells #[.int .i64 x165000_1, .int .i64 x165001_1, .int .i64 x165002_1, .int .i64 x165003_1] 37 (0, 0)) (by (with_reducible repeat (first | refine blk_drewN ?_ _ | refine blk_drew ?_ | refine blk_alloc ?_ _)); exact BK164.out) hb); have n5_ := Aside0.mk (below_step (by repeat (first | (with_reducible first | exact HB.out | apply below_alloc | apply pw_below_drewN | apply below_drew1 | refine below_set ?_ GE161.out | refine below_set ?_ GE162.out | refine below_set ?_ GE163.out | refine below_set ?_ GE164.out) | exact HB.out)) hb); clear HO_8; clear BK161; clear BK162; clear BK163; clear BK164; clear HB; have HO_8 := n0_; have BK161 := n1_; have BK162 := n2_; have BK163 := n3_; have BK164 := n4_; have HB := n5_; clear n0_ n1_ n2_ n3_ n4_ n5_; (try clear hb); (try clear hb2); (try clear hk); (try clear hi)) | ((with_reducible refine gate_dst (N := 12) rfl ?_); refine box_event ?hg (N := 12) ?hd (cs := #[.int .i64 0, .int .i64 0, .int .i64 0, .int .i64 0]) (t := 37) ?hr ?_; (case hd => rfl); (case hg => rfl); (case hr => first | (go_simp; done) | (go_simp; rfl)); intro gb171 hg w28 hbox hb; have n0_ := Aside0.mk (Kd.R_below (Kd.R_elderB (by (with_reducible repeat (first | apply Kd.R_alloc | apply Kd.R_drewN | apply Kd.R_drew)); exact HO_8.out) gb171 (Nat.le_of_eq hg.symm)) hb); have n1_ := Aside0.mk (blk_below (g := gc2_0) (o := .cells #[.slice A2_0_0 l2_0_0.length c2_0_0] 22 (0, 0)) (by (with_reducible repeat (first | refine blk_drewN ?_ _ | refine blk_drew ?_ | refine blk_alloc ?_ _)); exact BK161.out) hb); have n2_ := Aside0.mk (blk_below (g := gc2_1) (o := .cells #[.int .i64 a2_1_0] 2 (0, 0)) (by (with_reducible repeat (first | refine blk_drewN ?_ _ | refine blk_drew ?_ | refine blk_alloc ?_ _)); exact BK162.out) hb); have n3_ := Aside0.mk (blk_below (g := gb163) (o := .cells #[.int .i64 a1_0, .int .i64 a1_1, .int .i64 a1_2, .int .i64 a1_3] 37 (0, 0)) (by (with_reducible repeat (first | refine blk_drewN ?_ _ | refine blk_drew ?_ | refine blk_alloc ?_ _)); exact BK163.out) hb); have n4_ := Aside0.mk (blk_below (g := gb164) (o := .cells #[.int .i64 x165000_1, .int .i64 x165001_1, .int .i64 x165002_1, .int .i64 x165003_1] 37 (0, 0)) (by (with_reducible repeat (first | refine blk_drewN ?_ _ | refine blk_drew ?_ | refine blk_alloc ?_ _)); exact BK164.out) hb); have n5_ := Aside0.mk (below_step (by repeat (first | (with_reducible first | exact HB.out | apply below_alloc | apply pw_below_drewN | apply below_drew1 | refine below_set ?_ GE161.out | refine below_set ?_ GE162.out | refine below_set ?_ GE163.out | refine below_set ?_ GE164.out) | exact HB.out)) hb); have n6_ := Aside0.mk (hbox); have n7_ := Aside0.mk ((by rw [hg]; exact (below_size (by repeat (first | (with_reducible first | exact HB.out | apply below_alloc | apply pw_below_drewN | apply below_drew1 | refine below_set ?_ GE161.out | refine below_set ?_ GE162.out | refine below_set ?_ GE163.out | refine below_set ?_ GE164.out) | exact HB.out))) : w.heap.size ≤ gb171)); have n8_ := Aside0.mk ((by rw [hg]; exact (below_size (by repeat (first | (with_reducible first | exact HB.out | apply below_alloc | apply pw_below_drewN | apply below_drew1 | refine below_set ?_ GE161.out | refine below_set ?_ GE162.out | refine below_set ?_ GE163.out | refine below_set ?_ GE164.out) | exact HB.out))) : w.heap.size ≤ gb171)); have n9_ := Aside0.mk ((by rw [hg]; exact Nat.ne_of_lt (blk_lt (g := gc2_0) (o := .cells #[.slice A2_0_0 l2_0_0.length c2_0_0] 22 (0, 0)) (by (with_reducible repeat (first | refine blk_drewN ?_ _ | refine blk_drew ?_ | refine blk_alloc ?_ _)); exact BK161.out)) : gc2_0 ≠ gb171)); have n10_ := Aside0.mk ((by rw [hg]; exact Nat.ne_of_gt (blk_lt (g := gc2_0) (o := .cells #[.slice A2_0_0 l2_0_0.length c2_0_0] 22 (0, 0)) (by (with_reducible repeat (first | refine blk_drewN ?_ _ | refine blk_drew ?_ | refine blk_alloc ?_ _)); exact BK161.out)) : gb171 ≠ gc2_0)); have n11_ := Aside0.mk ((by rw [hg]; exact Nat.ne_of_lt (blk_lt (g := gc2_1) (o := .cells #[.int .i64 a2_1_0] 2 (0, 0)) (by (with_reducible repeat (first | refine blk_drewN ?_ _ | refine blk_drew ?_ | refine blk_alloc ?_ _)); exact BK162.out)) : gc2_1 ≠ gb171)); have n12_ := Aside0.mk ((by rw [hg]; exact Nat.ne_of_gt (blk_lt (g := gc2_1) (o := .cells #[.int .i64 a2_1_0] 2 (0, 0)) (by (with_reducible repeat (first | refine blk_drewN ?_ _ | refine blk_drew ?_ | refine blk_alloc ?_ _)); exact BK162.out)) : gb171 ≠ gc2_1)); have n13_ := Aside0.mk ((by rw [hg]; exact Nat.ne_of_lt (blk_lt (g := gb163) (o := .cells #[.int .i64 a1_0, .int .i64 a1_1, .int .i64 a1_2, .int .i64 a1_3] 37 (0, 0)) (by (with_reducible repeat (first | refine blk_drewN ?_ _ | refine blk_drew ?_ | refine blk_alloc ?_ _)); exact BK163.out)) : gb163 ≠ gb171)); have n14_ := Aside0.mk ((by rw [hg]; exact Nat.ne_of_gt (blk_lt (g := gb163) (o := .cells #[.int .i64 a1_0, .int .i64 a1_1, .int .i64 a1_2, .int .i64 a1_3] 37 (0, 0)) (by (with_reducible repeat (first | refine blk_drewN ?_ _ | refine blk_drew ?_ | refine blk_alloc ?_ _)); exact BK163.out)) : gb171 ≠ gb163)); have n15_ := Aside0.mk ((by rw [hg]; exact Nat.ne_of_lt (blk_lt (g := gb164) (o := .cells #[.int .i64 x165000_1, .int .i64 x165001_1, .int .i64 x165002_1, .int .i64 x165003_1] 37 (0, 0)) (by (with_reducible repeat (first | refine blk_drewN ?_ _ | refine blk_drew ?_ | refine blk_alloc ?_ _)); exact BK164.out)) : gb164 ≠ gb171)); have n16_ := Aside0.mk ((by rw [hg]; exact Nat.ne_of_gt (blk_lt (g := gb164) (o := .cells #[.int .i64 x165000_1, .int .i64 x165001_1, .int .i64 x165002_1, .int .i64 x165003_1] 37 (0, 0)) (by (with_reducible repeat (first | refine blk_drewN ?_ _ | refine blk_drew ?_ | refine blk_alloc ?_ _)); exact BK164.out)) : gb171 ≠ gb164)); clear HO_8; clear BK161; clear BK162; clear BK163; clear BK164; clear HB; have HO_8 := n0_; have BK161 := n1_; have BK162 := n2_; have BK163 := n3_; have BK164 := n4_; have HB := n5_; have BK171 := n6_; have GW171 := n7_; have GE171 := n8_; have NB161_171 := n9_; have NB171_161 := n10_; have NB162_171 := n11_; have NB171_162 := n12_; have NB163_171 := n13_; have NB171_163 := n14_; have NB164_171 := n15_; have NB171_164 := n16_; clear n0_ n1_ n2_ n3_ n4_ n5_ n6_ n7_ n8_ n9_ n10_ n11_ n12_ n13_ n14_ n15_ n16_; clear hb hbox hg; have hnb29 := NB171_161.out; have hnc29 := NB161_171.out; have hnb30 := NB171_162.out; have hnc30 := NB162_171.out; have hnb31 := NB171_163.out; have hnc31 := NB163_171.out; have hnb32 := NB171_164.out; have hnc32 := NB164_171.out; have hcz33_0 : w28.cell? ⟨gb171, 0, none⟩ = some (.int .i64 0) := (blk_cell BK171.out 0).trans rfl; have hcz33_1 : w28.cell? ⟨gb171, 1, none⟩ = some (.int .i64 0) := (blk_cell BK171.out 1).trans rfl; have hcz33_2 : w28.cell? ⟨gb171, 2, none⟩ = some (.int .i64 0) := (blk_cell BK171.out 2).trans rfl; have hcz33_3 : w28.cell? ⟨gb171, 3, none⟩ = some (.int .i64 0) := (blk_cell BK171.out 3).trans rfl; have hfz33_0 := blk_frozen BK171.out 0; have hfz33_1 := blk_frozen BK171.out 1; have hfz33_2 := blk_frozen BK171.out 2; have hfz33_3 := blk_frozen BK171.out 3))
                have n0_ : Aside0 (Kd.R k37 37 ((((w28.setCell ⟨gb171, 0, none⟩ (.int .i64 t166)).setCell ⟨gb171, 1, none⟩ (.int .i64 t167)).setCell ⟨gb171, 2, none⟩ (.int .i64 t168)).setCell ⟨gb171, 3, none⟩ (.int .i64 t169)) w.heap.size (fun k_ => k_ ≠ gb163 ∧ k_ ≠ gb164 ∧ k_ ≠ gb171) u8 x8_1) := ⟨by (with_reducible repeat (first | apply Kd.R_alloc | apply Kd.R_drewN | apply Kd.R_drew)); exact Kd.R_mono (Kd.R_far (p := ⟨gb171, 3, none⟩) (Kd.R_far (p := ⟨gb171, 2, none⟩) (Kd.R_far (p := ⟨gb171, 1, none⟩) (Kd.R_far (p := ⟨gb171, 0, none⟩) (Kd.R_mono HO_8.out (fun k_ hk => (⟨hk, hk.2⟩ : _ ∧ k_ ≠ gb171))) (fun _ hk => hk.2) (.int .i64 t166)) (fun _ hk => hk.2) (.int .i64 t167)) (fun _ hk => hk.2) (.int .i64 t168)) (fun _ hk => hk.2) (.int .i64 t169)) (fun _ hk => ⟨hk.1.1.1, ⟨hk.1.1.2, hk.1.2⟩⟩)⟩
                have n1_ : Aside0 (((((w28.setCell ⟨gb171, 0, none⟩ (.int .i64 t166)).setCell ⟨gb171, 1, none⟩ (.int .i64 t167)).setCell ⟨gb171, 2, none⟩ (.int .i64 t168)).setCell ⟨gb171, 3, none⟩ (.int .i64 t169)).heap[gc2_0]? = some (.cells #[.slice A2_0_0 l2_0_0.length c2_0_0] 22 (0, 0))) := ⟨by (with_reducible repeat (first | refine blk_drewN ?_ _ | refine blk_drew ?_ | refine blk_alloc ?_ _)); refine blk_far ?_ NB161_171.out _; (with_reducible repeat (first | refine blk_drewN ?_ _ | refine blk_drew ?_ | refine blk_alloc ?_ _)); refine blk_far ?_ NB161_171.out _; (with_reducible repeat (first | refine blk_drewN ?_ _ | refine blk_drew ?_ | refine blk_alloc ?_ _)); refine blk_far ?_ NB161_171.out _; (with_reducible repeat (first | refine blk_drewN ?_ _ | refine blk_drew ?_ | refine blk_alloc ?_ _)); refine blk_far ?_ NB161_171.out _; (with_reducible repeat (first | refine blk_drewN ?_ _ | refine blk_drew ?_ | refine blk_alloc ?_ _)); exact BK161.out⟩
                have n2_ : Aside0 (((((w28.setCell ⟨gb171, 0, none⟩ (.int .i64 t166)).setCell ⟨gb171, 1, none⟩ (.int .i64 t167)).setCell ⟨gb171, 2, none⟩ (.int .i64 t168)).setCell ⟨gb171, 3, none⟩ (.int .i64 t169)).heap[gc2_1]? = some (.cells #[.int .i64 a2_1_0] 2 (0, 0))) := ⟨by (with_reducible repeat (first | refine blk_drewN ?_ _ | refine blk_drew ?_ | refine blk_alloc ?_ _)); refine blk_far ?_ NB162_171.out _; (with_reducible repeat (first | refine blk_drewN ?_ _ | refine blk_drew ?_ | refine blk_alloc ?_ _)); refine blk_far ?_ NB162_171.out _; (with_reducible repeat (first | refine blk_drewN ?_ _ | refine blk_drew ?_ | refine blk_alloc ?_ _)); refine blk_far ?_ NB162_171.out _; (with_reducible repeat (first | refine blk_drewN ?_ _ | refine blk_drew ?_ | refine blk_alloc ?_ _)); refine blk_far ?_ NB162_171.out _; (with_reducible repeat (first | refine blk_drewN ?_ _ | refine blk_drew ?_ | refine blk_alloc ?_ _)); exact BK162.out⟩
                have n3_ : Aside0 (((((w28.setCell ⟨gb171, 0, none⟩ (.int .i64 t166)).setCell ⟨gb171, 1, none⟩ (.int .i64 t167)).setCell ⟨gb171, 2, none⟩ (.int .i64 t168)).setCell ⟨gb171, 3, none⟩ (.int .i64 t169)).heap[gb163]? = some (.cells #[.int .i64 a1_0, .int .i64 a1_1, .int .i64 a1_2, .int .i64 a1_3] 37 (0, 0))) := ⟨by (with_reducible repeat (first | refine blk_drewN ?_ _ | refine blk_drew ?_ | refine blk_alloc ?_ _)); refine blk_far ?_ NB163_171.out _; (with_reducible repeat (first | refine blk_drewN ?_ _ | refine blk_drew ?_ | refine blk_alloc ?_ _)); refine blk_far ?_ NB163_171.out _; (with_reducible repeat (first | refine blk_drewN ?_ _ | refine blk_drew ?_ | refine blk_alloc ?_ _)); refine blk_far ?_ NB163_171.out _; (with_reducible repeat (first | refine blk_drewN ?_ _ | refine blk_drew ?_ | refine blk_alloc ?_ _)); refine blk_far ?_ NB163_171.out _; (with_reducible repeat (first | refine blk_drewN ?_ _ | refine blk_drew ?_ | refine blk_alloc ?_ _)); exact BK163.out⟩
                have n4_ : Aside0 (((((w28.setCell ⟨gb171, 0, none⟩ (.int .i64 t166)).setCell ⟨gb171, 1, none⟩ (.int .i64 t167)).setCell ⟨gb171, 2, none⟩ (.int .i64 t168)).setCell ⟨gb171, 3, none⟩ (.int .i64 t169)).heap[gb164]? = some (.cells #[.int .i64 x165000_1, .int .i64 x165001_1, .int .i64 x165002_1, .int .i64 x165003_1] 37 (0, 0))) := ⟨by (with_reducible repeat (first | refine blk_drewN ?_ _ | refine blk_drew ?_ | refine blk_alloc ?_ _)); refine blk_far ?_ NB164_171.out _; (with_reducible repeat (first | refine blk_drewN ?_ _ | refine blk_drew ?_ | refine blk_alloc ?_ _)); refine blk_far ?_ NB164_171.out _; (with_reducible repeat (first | refine blk_drewN ?_ _ | refine blk_drew ?_ | refine blk_alloc ?_ _)); refine blk_far ?_ NB164_171.out _; (with_reducible repeat (first | refine blk_drewN ?_ _ | refine blk_drew ?_ | refine blk_alloc ?_ _)); refine blk_far ?_ NB164_171.out _; (with_reducible repeat (first | refine blk_drewN ?_ _ | refine blk_drew ?_ | refine blk_alloc ?_ _)); exact BK164.out⟩
                have n5_ : Aside0 (((((w28.setCell ⟨gb171, 0, none⟩ (.int .i64 t166)).setCell ⟨gb171, 1, none⟩ (.int .i64 t167)).setCell ⟨gb171, 2, none⟩ (.int .i64 t168)).setCell ⟨gb171, 3, none⟩ (.int .i64 t169)).heap[gb171]? = some (.cells #[.int .i64 t166, .int .i64 t167, .int .i64 t168, .int .i64 t169] 37 (0, 0))) := ⟨by (with_reducible repeat (first | refine blk_drewN ?_ _ | refine blk_drew ?_ | refine blk_alloc ?_ _)); refine blk_put (cs := #[.int .i64 t166, .int .i64 t167, .int .i64 t168, .int .i64 0]) ?_ 3 _ rfl; (with_reducible repeat (first | refine blk_drewN ?_ _ | refine blk_drew ?_ | refine blk_alloc ?_ _)); refine blk_put (cs := #[.int .i64 t166, .int .i64 t167, .int .i64 0, .int .i64 0]) ?_ 2 _ rfl; (with_reducible repeat (first | refine blk_drewN ?_ _ | refine blk_drew ?_ | refine blk_alloc ?_ _)); refine blk_put (cs := #[.int .i64 t166, .int .i64 0, .int .i64 0, .int .i64 0]) ?_ 1 _ rfl; (with_reducible repeat (first | refine blk_drewN ?_ _ | refine blk_drew ?_ | refine blk_alloc ?_ _)); refine blk_put (cs := #[.int .i64 0, .int .i64 0, .int .i64 0, .int .i64 0]) ?_ 0 _ rfl; (with_reducible repeat (first | refine blk_drewN ?_ _ | refine blk_drew ?_ | refine blk_alloc ?_ _)); exact BK171.out⟩
                have n6_ : Aside0 (Below w.heap.size w ((((w28.setCell ⟨gb171, 0, none⟩ (.int .i64 t166)).setCell ⟨gb171, 1, none⟩ (.int .i64 t167)).setCell ⟨gb171, 2, none⟩ (.int .i64 t168)).setCell ⟨gb171, 3, none⟩ (.int .i64 t169))) := ⟨by repeat (first | (with_reducible first | exact HB.out | apply below_alloc | apply pw_below_drewN | apply below_drew1 | refine below_set ?_ GE161.out | refine below_set ?_ GE162.out | refine below_set ?_ GE163.out | refine below_set ?_ GE164.out | refine below_set ?_ GE171.out) | exact HB.out)⟩
                (try clear HO_8)
                (try clear BK161)
                (try clear BK162)
                (try clear BK163)
                (try clear BK164)
                (try clear BK171)
                (try clear HB)
                generalize ((((w28.setCell ⟨gb171, 0, none⟩ (.int .i64 t166)).setCell ⟨gb171, 1, none⟩ (.int .i64 t167)).setCell ⟨gb171, 2, none⟩ (.int .i64 t168)).setCell ⟨gb171, 3, none⟩ (.int .i64 t169)) = w34 at n0_ n1_ n2_ n3_ n4_ n5_ n6_ ⊢
                have HO_8 := n0_
                have BK161 := n1_
                have BK162 := n2_
                have BK163 := n3_
                have BK164 := n4_
                have BK171 := n5_
                have HB := n6_
                clear n0_ n1_ n2_ n3_ n4_ n5_ n6_
                have n0_ := Aside0.mk (Kd.R_drew HO_8.out)
                have n1_ := Aside0.mk (blk_drew BK161.out)
                have n2_ := Aside0.mk (blk_drew BK162.out)
                have n3_ := Aside0.mk (blk_drew BK163.out)
                have n4_ := Aside0.mk (blk_drew BK164.out)
                have n5_ := Aside0.mk (blk_drew BK171.out)
                have n6_ := Aside0.mk (below_drew1 HB.out)
                clear HO_8
                clear BK161
                clear BK162
                clear BK163
                clear BK164
                clear BK171
                clear HB
                have HO_8 := n0_
                have BK161 := n1_
                have BK162 := n2_
                have BK163 := n3_
                have BK164 := n4_
                have BK171 := n5_
                have HB := n6_
                clear n0_ n1_ n2_ n3_ n4_ n5_ n6_
                refine start_ (n := 7) (S := fun w' => w'.cell? ⟨gb171, 0, none⟩ = some (.int .i64 t166) ∧ w'.cell? ⟨gb171, 1, none⟩ = some (.int .i64 t167) ∧ w'.cell? ⟨gb171, 2, none⟩ = some (.int .i64 t168) ∧ w'.cell? ⟨gb171, 3, none⟩ = some (.int .i64 t169)) (ds := []) #[false, false, false, false, false, false, false] (by kernel_rfl) rfl rfl ⟨(blk_cell BK171.out 0).trans rfl, (blk_cell BK171.out 1).trans rfl, (blk_cell BK171.out 2).trans rfl, (blk_cell BK171.out 3).trans rfl⟩ (fun hHeld => ?_)
                generalize w34.drew = w35 at HO_8 BK161 BK162 BK163 BK164 BK171 HB hHeld ⊢
                refine pure_ (i := 0) (N := some 33) (v := ?_) (a' := ?_) #[true, false, false, false, false, false, false] rfl rfl (by kernel_rfl) (fun _ _ _ h => h) (Or.inl ⟨by rfl, ?_⟩) ?_ ?_
                rotate_left
                · intro w'
                  go_simp
                  with_reducible rfl
                rotate_left
                · simp only [Act.put, List.setIfInBounds_toArray, List.set_cons_zero, List.set_cons_succ, i64_w, i32_w]
                  rfl
                refine take_ (i := 1) (N := some 34) (v := ?_) (a' := ?_) #[true, true, false, false, false, false, false] rfl rfl (by kernel_rfl) (fun _ _ _ h => h) (Or.inl ⟨by rfl, ?_⟩) hHeld ?_ ?_
                rotate_left
                · rintro w' ⟨s0, s1, s2, s3⟩
                  go_simp
                  with_reducible rfl
                rotate_left
                · simp only [Act.put, List.setIfInBounds_toArray, List.set_cons_zero, List.set_cons_succ, i64_w, i32_w]
                  rfl
                refine take_ (i := 4) (N := some 37) (v := ?_) (a' := ?_) #[true, true, false, false, true, false, false] rfl rfl (by kernel_rfl) (fun _ _ _ h => h) (Or.inl ⟨by rfl, ?_⟩) hHeld ?_ ?_
                rotate_left
                · rintro w' ⟨s0, s1, s2, s3⟩
                  go_simp
                  with_reducible rfl
                rotate_left
                · simp only [Act.put, List.setIfInBounds_toArray, List.set_cons_zero, List.set_cons_succ, i64_w, i32_w]
                  rfl
                refine one_ (i := 2) (N := some 35) #[true, true, true, false, true, false, false] rfl rfl (by kernel_rfl) (by decide) (fun K hK => ?_)
                refine value_ (w1 := ?_) (v := ?_) (by rfl) rfl ?_ ?_
                rotate_left 2
                · go_simp
                  constructor
                  · rfl
                  · rfl
                refine hK.out _ _ ⟨(blk_cell (blk_alloc BK171.out _) 0).trans rfl, (blk_cell (blk_alloc BK171.out _) 1).trans rfl, (blk_cell (blk_alloc BK171.out _) 2).trans rfl, (blk_cell (blk_alloc BK171.out _) 3).trans rfl⟩ (fun hHeld => ?_)
                clear hK K
                refine norm_ (a' := ?_) ?_ ?_
                rotate_left
                · show Act.put _ (some 35) _ = _
                  simp only [Act.put, List.setIfInBounds_toArray, List.set_cons_zero, List.set_cons_succ, i64_w, i32_w]
                  rfl
                refine one_ (i := 3) (N := some 36) #[true, true, true, true, true, false, false] rfl rfl (by kernel_rfl) (by decide) (fun K hK => ?_)
                refine Kd.R_append_step k37 (w0 := w) w.heap.size (by rfl) (.tmp 33) (.tmp 35) 24 37 (.agg #[(.int .i64 0), (.int .i64 0), (.int .i64 0), (.int .i64 0)]) 32 rfl Try.underlying24 info37 rfl (by decide) (by omega) u8 x8_1 (⟨t166, t167, t168, t169⟩ : S37) [.int .i64 t166, .int .i64 t167, .int .i64 t168, .int .i64 t169] (fun k_ => k_ ≠ gb163 ∧ k_ ≠ gb164 ∧ k_ ≠ gb171) (fun _ => False) rfl rfl ?aP (fun _ hk => hk.elim) ?aF ?aO ?aB ?aS ?aL ?_
                (case aP => exact k37_mkM _ _ _ (⟨t166, t167, t168, t169⟩ : S37))
                (case aB => exact (by repeat (first | (with_reducible first | exact HB.out | apply below_alloc | apply pw_below_drewN | apply below_drew1 | refine below_set ?_ GE161.out | refine below_set ?_ GE162.out | refine below_set ?_ GE163.out | refine below_set ?_ GE164.out | refine below_set ?_ GE171.out) | exact HB.out)))
                (case aF => exact (fun k_ hk => ⟨Kd.freshB (g := gb163) (o := .cells #[.int .i64 a1_0, .int .i64 a1_1, .int .i64 a1_2, .int .i64 a1_3] 37 (0, 0)) (by (with_reducible repeat (first | refine blk_drewN ?_ _ | refine blk_drew ?_ | refine blk_alloc ?_ _)); exact BK163.out) k_ hk, Kd.freshB (g := gb164) (o := .cells #[.int .i64 x165000_1, .int .i64 x165001_1, .int .i64 x165002_1, .int .i64 x165003_1] 37 (0, 0)) (by (with_reducible repeat (first | refine blk_drewN ?_ _ | refine blk_drew ?_ | refine blk_alloc ?_ _)); exact BK164.out) k_ hk, Kd.freshB (g := gb171) (o := .cells #[.int .i64 t166, .int .i64 t167, .int .i64 t168, .int .i64 t169] 37 (0, 0)) (by (with_reducible repeat (first | refine blk_drewN ?_ _ | refine blk_drew ?_ | refine blk_alloc ?_ _)); exact BK171.out) k_ hk⟩))
                (case aO => exact (by (with_reducible repeat (first | apply Kd.R_alloc | apply Kd.R_drewN | apply Kd.R_drew)); exact HO_8.out))
                (case aS => exact (below_size (by repeat (first | (with_reducible first | exact HB.out | apply below_alloc | apply pw_below_drewN | apply below_drew1 | refine below_set ?_ GE161.out | refine below_set ?_ GE162.out | refine below_set ?_ GE163.out | refine below_set ?_ GE164.out | refine below_set ?_ GE171.out) | exact HB.out))))
                (case aL => have := LMc18.out; omega)
                intro v173 w36 ho hb hg hat
                rw [← Ny172.out] at ho
                have n0_ := Aside0.mk (blk_grown (g := gc2_0) (o := .cells #[.slice A2_0_0 l2_0_0.length c2_0_0] 22 (0, 0)) (by (with_reducible repeat (first | refine blk_drewN ?_ _ | refine blk_drew ?_ | refine blk_alloc ?_ _)); exact BK161.out) hg (Kd.R_ne HO_8.out BK161.out (by decide)))
                have n1_ := Aside0.mk (blk_grown (g := gc2_1) (o := .cells #[.int .i64 a2_1_0] 2 (0, 0)) (by (with_reducible repeat (first | refine blk_drewN ?_ _ | refine blk_drew ?_ | refine blk_alloc ?_ _)); exact BK162.out) hg (Kd.R_ne HO_8.out BK162.out (by decide)))
                have n2_ := Aside0.mk (blk_grown (g := gb163) (o := .cells #[.int .i64 a1_0, .int .i64 a1_1, .int .i64 a1_2, .int .i64 a1_3] 37 (0, 0)) (by (with_reducible repeat (first | refine blk_drewN ?_ _ | refine blk_drew ?_ | refine blk_alloc ?_ _)); exact BK163.out) hg (Kd.R_away HO_8.out (fun _ hk => hk.1)))
                have n3_ := Aside0.mk (blk_grown (g := gb164) (o := .cells #[.int .i64 x165000_1, .int .i64 x165001_1, .int .i64 x165002_1, .int .i64 x165003_1] 37 (0, 0)) (by (with_reducible repeat (first | refine blk_drewN ?_ _ | refine blk_drew ?_ | refine blk_alloc ?_ _)); exact BK164.out) hg (Kd.R_away HO_8.out (fun _ hk => hk.2.1)))
                have n4_ := Aside0.mk (blk_grown (g := gb171) (o := .cells #[.int .i64 t166, .int .i64 t167, .int .i64 t168, .int .i64 t169] 37 (0, 0)) (by (with_reducible repeat (first | refine blk_drewN ?_ _ | refine blk_drew ?_ | refine blk_alloc ?_ _)); exact BK171.out) hg (Kd.R_away HO_8.out (fun _ hk => hk.2.2)))
                have n5_ := Aside0.mk (hb)
                have n6_ := Aside0.mk (ho)
                clear BK161
                clear BK162
                clear BK163
                clear BK164
                clear BK171
                clear HB
                clear HO_8
                have BK161 := n0_
                have BK162 := n1_
                have BK163 := n2_
                have BK164 := n3_
                have BK171 := n4_
                have HB := n5_
                have HO174 := n6_
                clear n0_ n1_ n2_ n3_ n4_ n5_ n6_
                clear ho hb hg hat
                refine hK.out _ _ ⟨(blk_cell BK171.out 0).trans rfl, (blk_cell BK171.out 1).trans rfl, (blk_cell BK171.out 2).trans rfl, (blk_cell BK171.out 3).trans rfl⟩ (fun hHeld => ?_)
                clear hK K
                refine norm_ (a' := ?_) ?_ ?_
                rotate_left
                · show Act.put _ (some 36) _ = _
                  simp only [Act.put, List.setIfInBounds_toArray, List.set_cons_zero, List.set_cons_succ, i64_w, i32_w]
                  rfl
                refine pure_ (i := 5) (N := some 8) (v := ?_) (a' := ?_) #[true, true, true, true, true, true, false] rfl rfl (by kernel_rfl) (fun _ _ _ h => h) (Or.inl ⟨by rfl, ?_⟩) ?_ ?_
                rotate_left
                · intro w'
                  go_simp
                  with_reducible rfl
                rotate_left
                · simp only [Act.put, List.setIfInBounds_toArray, List.set_cons_zero, List.set_cons_succ, i64_w, i32_w]
                  rfl
                refine one_ (i := 6) (N := none) #[true, true, true, true, true, true, true] rfl rfl (by kernel_rfl) (by decide) (fun K hK => ?_)
                have hs37 : w36.cell? ⟨gb164, 0, none⟩ = some (.int .i64 x165000_1) := (blk_cell BK164.out 0).trans rfl
                have hfs37 := blk_frozen BK164.out 0
                have hns37_0 := NB161_164.out
                have hns37_1 := NB162_164.out
                have hns37_2 := NB163_164.out
                have hns37_4 := NB171_164.out
                have hms37_0 := NB164_161.out
                have hms37_1 := NB164_162.out
                have hms37_2 := NB164_163.out
                have hms37_4 := NB164_171.out
                have hs38 : w36.cell? ⟨gb164, 1, none⟩ = some (.int .i64 x165001_1) := (blk_cell BK164.out 1).trans rfl
                have hfs38 := blk_frozen BK164.out 1
                have hns38_0 := NB161_164.out
                have hns38_1 := NB162_164.out
                have hns38_2 := NB163_164.out
                have hns38_4 := NB171_164.out
                have hms38_0 := NB164_161.out
                have hms38_1 := NB164_162.out
                have hms38_2 := NB164_163.out
                have hms38_4 := NB164_171.out
                have hs39 : w36.cell? ⟨gb164, 2, none⟩ = some (.int .i64 x165002_1) := (blk_cell BK164.out 2).trans rfl
                have hfs39 := blk_frozen BK164.out 2
                have hns39_0 := NB161_164.out
                have hns39_1 := NB162_164.out
                have hns39_2 := NB163_164.out
                have hns39_4 := NB171_164.out
                have hms39_0 := NB164_161.out
                have hms39_1 := NB164_162.out
                have hms39_2 := NB164_163.out
                have hms39_4 := NB164_171.out
                have hs40 : w36.cell? ⟨gb164, 3, none⟩ = some (.int .i64 x165003_1) := (blk_cell BK164.out 3).trans rfl
                have hfs40 := blk_frozen BK164.out 3
                have hns40_0 := NB161_164.out
                have hns40_1 := NB162_164.out
                have hns40_2 := NB163_164.out
                have hns40_4 := NB171_164.out
                have hms40_0 := NB164_161.out
                have hms40_1 := NB164_162.out
                have hms40_2 := NB164_163.out
                have hms40_4 := NB164_171.out
                refine skip_ (w1 := ?_) (by rfl) rfl ?_ ?_
                rotate_left
                · go_simp
                  rfl
                refine hK.out _ _ ⟨((cell_far (p := ⟨gb164, _, none⟩) NB171_164.out _).trans (((cell_far (p := ⟨gb164, _, none⟩) NB171_164.out _).trans (((cell_far (p := ⟨gb164, _, none⟩) NB171_164.out _).trans (((cell_far (p := ⟨gb164, _, none⟩) NB171_164.out _).trans (hHeld.1)))))))), ((cell_far (p := ⟨gb164, _, none⟩) NB171_164.out _).trans (((cell_far (p := ⟨gb164, _, none⟩) NB171_164.out _).trans (((cell_far (p := ⟨gb164, _, none⟩) NB171_164.out _).trans (((cell_far (p := ⟨gb164, _, none⟩) NB171_164.out _).trans (hHeld.2.1)))))))), ((cell_far (p := ⟨gb164, _, none⟩) NB171_164.out _).trans (((cell_far (p := ⟨gb164, _, none⟩) NB171_164.out _).trans (((cell_far (p := ⟨gb164, _, none⟩) NB171_164.out _).trans (((cell_far (p := ⟨gb164, _, none⟩) NB171_164.out _).trans (hHeld.2.2.1)))))))), ((cell_far (p := ⟨gb164, _, none⟩) NB171_164.out _).trans (((cell_far (p := ⟨gb164, _, none⟩) NB171_164.out _).trans (((cell_far (p := ⟨gb164, _, none⟩) NB171_164.out _).trans (((cell_far (p := ⟨gb164, _, none⟩) NB171_164.out _).trans (hHeld.2.2.2))))))))⟩ (fun hHeld => ?_)
                clear hK K
                refine done_ (by kernel_rfl) ?_
                try go_wp2
                go_roundg k1
                case measure => have := HK1.out; omega
                case rel => exact ⟨(y172), (wrap64 (x17_1 + 1)), (t166), (t167), (t168), (t169), (by first | rfl | (simp; done) | (simp [*]; done)), H', ⟨by have := HK1.out; omega⟩, ⟨by (with_reducible repeat (first | apply Kd.R_alloc | apply Kd.R_drewN | apply Kd.R_drew)); exact Kd.R_mono (Kd.R_far (p := ⟨gb164, 3, none⟩) (Kd.R_far (p := ⟨gb164, 2, none⟩) (Kd.R_far (p := ⟨gb164, 1, none⟩) (Kd.R_far (p := ⟨gb164, 0, none⟩) (Kd.R_mono HO174.out (fun k_ hk => (⟨hk, hk.2.1⟩ : _ ∧ k_ ≠ gb164))) (fun _ hk => hk.2) (.int .i64 t166)) (fun _ hk => hk.2) (.int .i64 t167)) (fun _ hk => hk.2) (.int .i64 t168)) (fun _ hk => hk.2) (.int .i64 t169)) (fun _ hk => ⟨hk.1.1, hk.1.2.1⟩)⟩, ⟨by (with_reducible repeat (first | refine blk_drewN ?_ _ | refine blk_drew ?_ | refine blk_alloc ?_ _)); refine blk_far ?_ NB161_164.out _; (with_reducible repeat (first | refine blk_drewN ?_ _ | refine blk_drew ?_ | refine blk_alloc ?_ _)); refine blk_far ?_ NB161_164.out _; (with_reducible repeat (first | refine blk_drewN ?_ _ | refine blk_drew ?_ | refine blk_alloc ?_ _)); refine blk_far ?_ NB161_164.out _; (with_reducible repeat (first | refine blk_drewN ?_ _ | refine blk_drew ?_ | refine blk_alloc ?_ _)); refine blk_far ?_ NB161_164.out _; (with_reducible repeat (first | refine blk_drewN ?_ _ | refine blk_drew ?_ | refine blk_alloc ?_ _)); exact BK161.out⟩, ⟨by (with_reducible repeat (first | refine blk_drewN ?_ _ | refine blk_drew ?_ | refine blk_alloc ?_ _)); refine blk_far ?_ NB162_164.out _; (with_reducible repeat (first | refine blk_drewN ?_ _ | refine blk_drew ?_ | refine blk_alloc ?_ _)); refine blk_far ?_ NB162_164.out _; (with_reducible repeat (first | refine blk_drewN ?_ _ | refine blk_drew ?_ | refine blk_alloc ?_ _)); refine blk_far ?_ NB162_164.out _; (with_reducible repeat (first | refine blk_drewN ?_ _ | refine blk_drew ?_ | refine blk_alloc ?_ _)); refine blk_far ?_ NB162_164.out _; (with_reducible repeat (first | refine blk_drewN ?_ _ | refine blk_drew ?_ | refine blk_alloc ?_ _)); exact BK162.out⟩, ⟨by (with_reducible repeat (first | refine blk_drewN ?_ _ | refine blk_drew ?_ | refine blk_alloc ?_ _)); refine blk_far ?_ NB163_164.out _; (with_reducible repeat (first | refine blk_drewN ?_ _ | refine blk_drew ?_ | refine blk_alloc ?_ _)); refine blk_far ?_ NB163_164.out _; (with_reducible repeat (first | refine blk_drewN ?_ _ | refine blk_drew ?_ | refine blk_alloc ?_ _)); refine blk_far ?_ NB163_164.out _; (with_reducible repeat (first | refine blk_drewN ?_ _ | refine blk_drew ?_ | refine blk_alloc ?_ _)); refine blk_far ?_ NB163_164.out _; (with_reducible repeat (first | refine blk_drewN ?_ _ | refine blk_drew ?_ | refine blk_alloc ?_ _)); exact BK163.out⟩, ⟨by (with_reducible repeat (first | refine blk_drewN ?_ _ | refine blk_drew ?_ | refine blk_alloc ?_ _)); refine blk_put (cs := #[.int .i64 t166, .int .i64 t167, .int .i64 t168, .int .i64 x165003_1]) ?_ 3 _ rfl; (with_reducible repeat (first | refine blk_drewN ?_ _ | refine blk_drew ?_ | refine blk_alloc ?_ _)); refine blk_put (cs := #[.int .i64 t166, .int .i64 t167, .int .i64 x165002_1, .int .i64 x165003_1]) ?_ 2 _ rfl; (with_reducible repeat (first | refine blk_drewN ?_ _ | refine blk_drew ?_ | refine blk_alloc ?_ _)); refine blk_put (cs := #[.int .i64 t166, .int .i64 x165001_1, .int .i64 x165002_1, .int .i64 x165003_1]) ?_ 1 _ rfl; (with_reducible repeat (first | refine blk_drewN ?_ _ | refine blk_drew ?_ | refine blk_alloc ?_ _)); refine blk_put (cs := #[.int .i64 x165000_1, .int .i64 x165001_1, .int .i64 x165002_1, .int .i64 x165003_1]) ?_ 0 _ rfl; (with_reducible repeat (first | refine blk_drewN ?_ _ | refine blk_drew ?_ | refine blk_alloc ?_ _)); exact BK164.out⟩, ⟨by repeat (first | (with_reducible first | exact HB.out | apply below_alloc | apply pw_below_drewN | apply below_drew1 | refine below_set ?_ GE161.out | refine below_set ?_ GE162.out | refine below_set ?_ GE163.out | refine below_set ?_ GE164.out | refine below_set ?_ GE171.out) | exact HB.out)⟩⟩
              · rw [if_neg c18] at H
                exact absurd H (by simp)
            · rw [if_neg c17] at H
              have c17b0 : (t170 == 0) = false := beq_eq_false_iff_ne.mpr c17
              have c17b1 : (t170 != 0) = true := bne_iff_ne.mpr c17
              simp only [Option.some.injEq, Prod.mk.injEq] at H
              obtain ⟨rfl, rfl⟩ := H
              have p165 : 0 ≤ (x17_1 : Int) := of_decide_eq_true (by first | (with_reducible assumption) | assumption)
              have q165 : x17_1 < (l0.length : Int) := of_decide_eq_true (by first | (with_reducible assumption) | assumption)
              obtain ⟨ad165, e165, hx165_0⟩ := Kd.at_int HR0.out x17_1 p165 q165
              cases e165
              try replace hx165_0 := (HB.out.cell (World.block_lt_of_cell? w _ hx165_0)).trans hx165_0
              replace p165 := eq_true p165
              replace q165 := eq_true q165
              have hnb41 := NB164_161.out
              have hnc41 := NB161_164.out
              have hnb42 := NB164_162.out
              have hnc42 := NB162_164.out
              have hnb43 := NB164_163.out
              have hnc43 := NB163_164.out
              have hcz44_0 : wr.cell? ⟨gb164, 0, none⟩ = some (.int .i64 x165000_1) := (blk_cell BK164.out 0).trans rfl
              have hcz44_1 : wr.cell? ⟨gb164, 1, none⟩ = some (.int .i64 x165001_1) := (blk_cell BK164.out 1).trans rfl
              have hcz44_2 : wr.cell? ⟨gb164, 2, none⟩ = some (.int .i64 x165002_1) := (blk_cell BK164.out 2).trans rfl
              have hcz44_3 : wr.cell? ⟨gb164, 3, none⟩ = some (.int .i64 x165003_1) := (blk_cell BK164.out 3).trans rfl
              have hfz44_0 := blk_frozen BK164.out 0
              have hfz44_1 := blk_frozen BK164.out 1
              have hfz44_2 := blk_frozen BK164.out 2
              have hfz44_3 := blk_frozen BK164.out 3
              have hnb45 := NB161_163.out
              have hnc45 := NB163_161.out
              have hcz46_0 : wr.cell? ⟨gc2_0, 0, none⟩ = some (.slice A2_0_0 l2_0_0.length c2_0_0) := (blk_cell BK161.out 0).trans rfl
              have hfz46_0 := blk_frozen BK161.out 0
              have hnb47 := NB162_163.out
              have hnc47 := NB163_162.out
              have hcz48_0 : wr.cell? ⟨gc2_1, 0, none⟩ = some (.int .i64 a2_1_0) := (blk_cell BK162.out 0).trans rfl
              have hfz48_0 := blk_frozen BK162.out 0
              go_wp2_with (first | (go_at_call 32; (with_reducible refine (table_Roll_1.calls k1 x165000_1 x165001_1 x165002_1 x165003_1 x17_1 (rd l0 x17_1) gc2_0 A2_0_0 c2_0_0 l2_0_0 gc2_1 a2_1_0 t166 t167 t168 t169 t170 _ ?side1 ?side2 ?side3 ?side4 A16.out).mono ?_); (case side1 => (with_reducible repeat (first | refine blk_drewN ?_ _ | refine blk_drew ?_ | refine blk_alloc ?_ _)); exact BK161.out); (case side2 => repeat (first | exact (Kd.C_below HR2_0_0.out HB.out) | (with_reducible refine Kd.C_alloc ?_ _) | (with_reducible refine Kd.C_drewN ?_ _) | (with_reducible refine Kd.C_drew ?_))); (case side3 => exact HC2_0_0.out); (case side4 => (with_reducible repeat (first | refine blk_drewN ?_ _ | refine blk_drew ?_ | refine blk_alloc ?_ _)); exact BK162.out); rintro e w49 ⟨rfl, hb⟩; have n0_ := Aside0.mk (Kd.R_below (by (with_reducible repeat (first | apply Kd.R_alloc | apply Kd.R_drewN | apply Kd.R_drew)); exact HO_8.out) hb); have n1_ := Aside0.mk (blk_below (g := gc2_0) (o := .cells #[.slice A2_0_0 l2_0_0.length c2_0_0] 22 (0, 0)) (by (with_reducible repeat (first | refine blk_drewN ?_ _ | refine blk_drew ?_ | refine blk_alloc ?_ _)); exact BK161.out) hb); have n2_ := Aside0.mk (blk_below (g := gc2_1) (o := .cells #[.int .i64 a2_1_0] 2 (0, 0)) (by (with_reducible repeat (first | refine blk_drewN ?_ _ | refine blk_drew ?_ | refine blk_alloc ?_ _)); exact BK162.out) hb); have n3_ := Aside0.mk (blk_below (g := gb163) (o := .cells #[.int .i64 a1_0, .int .i64 a1_1, .int .i64 a1_2, .int .i64 a1_3] 37 (0, 0)) (by (with_reducible repeat (first | refine blk_drewN ?_ _ | refine blk_drew ?_ | refine blk_alloc ?_ _)); exact BK163.out) hb); have n4_ := Aside0.mk (blk_below (g := gb164) (o := .cells #[.int .i64 x165000_1, .int .i64 x165001_1, .int .i64 x165002_1, .int .i64 x165003_1] 37 (0, 0)) (by (with_reducible repeat (first | refine blk_drewN ?_ _ | refine blk_drew ?_ | refine blk_alloc ?_ _)); exact BK164.out) hb); have n5_ := Aside0.mk (below_step (by repeat (first | (with_reducible first | exact HB.out | apply below_alloc | apply pw_below_drewN | apply below_drew1 | refine below_set ?_ GE161.out | refine below_set ?_ GE162.out | refine below_set ?_ GE163.out | refine below_set ?_ GE164.out) | exact HB.out)) hb); clear HO_8; clear BK161; clear BK162; clear BK163; clear BK164; clear HB; have HO_8 := n0_; have BK161 := n1_; have BK162 := n2_; have BK163 := n3_; have BK164 := n4_; have HB := n5_; clear n0_ n1_ n2_ n3_ n4_ n5_; (try clear hb); (try clear hb2); (try clear hk); (try clear hi)) | ((with_reducible refine gate_dst (N := 12) rfl ?_); refine box_event ?hg (N := 12) ?hd (cs := #[.int .i64 0, .int .i64 0, .int .i64 0, .int .i64 0]) (t := 37) ?hr ?_; (case hd => rfl); (case hg => rfl); (case hr => first | (go_simp; done) | (go_simp; rfl)); intro gb171 hg w50 hbox hb; have n0_ := Aside0.mk (Kd.R_below (Kd.R_elderB (by (with_reducible repeat (first | apply Kd.R_alloc | apply Kd.R_drewN | apply Kd.R_drew)); exact HO_8.out) gb171 (Nat.le_of_eq hg.symm)) hb); have n1_ := Aside0.mk (blk_below (g := gc2_0) (o := .cells #[.slice A2_0_0 l2_0_0.length c2_0_0] 22 (0, 0)) (by (with_reducible repeat (first | refine blk_drewN ?_ _ | refine blk_drew ?_ | refine blk_alloc ?_ _)); exact BK161.out) hb); have n2_ := Aside0.mk (blk_below (g := gc2_1) (o := .cells #[.int .i64 a2_1_0] 2 (0, 0)) (by (with_reducible repeat (first | refine blk_drewN ?_ _ | refine blk_drew ?_ | refine blk_alloc ?_ _)); exact BK162.out) hb); have n3_ := Aside0.mk (blk_below (g := gb163) (o := .cells #[.int .i64 a1_0, .int .i64 a1_1, .int .i64 a1_2, .int .i64 a1_3] 37 (0, 0)) (by (with_reducible repeat (first | refine blk_drewN ?_ _ | refine blk_drew ?_ | refine blk_alloc ?_ _)); exact BK163.out) hb); have n4_ := Aside0.mk (blk_below (g := gb164) (o := .cells #[.int .i64 x165000_1, .int .i64 x165001_1, .int .i64 x165002_1, .int .i64 x165003_1] 37 (0, 0)) (by (with_reducible repeat (first | refine blk_drewN ?_ _ | refine blk_drew ?_ | refine blk_alloc ?_ _)); exact BK164.out) hb); have n5_ := Aside0.mk (below_step (by repeat (first | (with_reducible first | exact HB.out | apply below_alloc | apply pw_below_drewN | apply below_drew1 | refine below_set ?_ GE161.out | refine below_set ?_ GE162.out | refine below_set ?_ GE163.out | refine below_set ?_ GE164.out) | exact HB.out)) hb); have n6_ := Aside0.mk (hbox); have n7_ := Aside0.mk ((by rw [hg]; exact (below_size (by repeat (first | (with_reducible first | exact HB.out | apply below_alloc | apply pw_below_drewN | apply below_drew1 | refine below_set ?_ GE161.out | refine below_set ?_ GE162.out | refine below_set ?_ GE163.out | refine below_set ?_ GE164.out) | exact HB.out))) : w.heap.size ≤ gb171)); have n8_ := Aside0.mk ((by rw [hg]; exact (below_size (by repeat (first | (with_reducible first | exact HB.out | apply below_alloc | apply pw_below_drewN | apply below_drew1 | refine below_set ?_ GE161.out | refine below_set ?_ GE162.out | refine below_set ?_ GE163.out | refine below_set ?_ GE164.out) | exact HB.out))) : w.heap.size ≤ gb171)); have n9_ := Aside0.mk ((by rw [hg]; exact Nat.ne_of_lt (blk_lt (g := gc2_0) (o := .cells #[.slice A2_0_0 l2_0_0.length c2_0_0] 22 (0, 0)) (by (with_reducible repeat (first | refine blk_drewN ?_ _ | refine blk_drew ?_ | refine blk_alloc ?_ _)); exact BK161.out)) : gc2_0 ≠ gb171)); have n10_ := Aside0.mk ((by rw [hg]; exact Nat.ne_of_gt (blk_lt (g := gc2_0) (o := .cells #[.slice A2_0_0 l2_0_0.length c2_0_0] 22 (0, 0)) (by (with_reducible repeat (first | refine blk_drewN ?_ _ | refine blk_drew ?_ | refine blk_alloc ?_ _)); exact BK161.out)) : gb171 ≠ gc2_0)); have n11_ := Aside0.mk ((by rw [hg]; exact Nat.ne_of_lt (blk_lt (g := gc2_1) (o := .cells #[.int .i64 a2_1_0] 2 (0, 0)) (by (with_reducible repeat (first | refine blk_drewN ?_ _ | refine blk_drew ?_ | refine blk_alloc ?_ _)); exact BK162.out)) : gc2_1 ≠ gb171)); have n12_ := Aside0.mk ((by rw [hg]; exact Nat.ne_of_gt (blk_lt (g := gc2_1) (o := .cells #[.int .i64 a2_1_0] 2 (0, 0)) (by (with_reducible repeat (first | refine blk_drewN ?_ _ | refine blk_drew ?_ | refine blk_alloc ?_ _)); exact BK162.out)) : gb171 ≠ gc2_1)); have n13_ := Aside0.mk ((by rw [hg]; exact Nat.ne_of_lt (blk_lt (g := gb163) (o := .cells #[.int .i64 a1_0, .int .i64 a1_1, .int .i64 a1_2, .int .i64 a1_3] 37 (0, 0)) (by (with_reducible repeat (first | refine blk_drewN ?_ _ | refine blk_drew ?_ | refine blk_alloc ?_ _)); exact BK163.out)) : gb163 ≠ gb171)); have n14_ := Aside0.mk ((by rw [hg]; exact Nat.ne_of_gt (blk_lt (g := gb163) (o := .cells #[.int .i64 a1_0, .int .i64 a1_1, .int .i64 a1_2, .int .i64 a1_3] 37 (0, 0)) (by (with_reducible repeat (first | refine blk_drewN ?_ _ | refine blk_drew ?_ | refine blk_alloc ?_ _)); exact BK163.out)) : gb171 ≠ gb163)); have n15_ := Aside0.mk ((by rw [hg]; exact Nat.ne_of_lt (blk_lt (g := gb164) (o := .cells #[.int .i64 x165000_1, .int .i64 x165001_1, .int .i64 x165002_1, .int .i64 x165003_1] 37 (0, 0)) (by (with_reducible repeat (first | refine blk_drewN ?_ _ | refine blk_drew ?_ | refine blk_alloc ?_ _)); exact BK164.out)) : gb164 ≠ gb171)); have n16_ := Aside0.mk ((by rw [hg]; exact Nat.ne_of_gt (blk_lt (g := gb164) (o := .cells #[.int .i64 x165000_1, .int .i64 x165001_1, .int .i64 x165002_1, .int .i64 x165003_1] 37 (0, 0)) (by (with_reducible repeat (first | refine blk_drewN ?_ _ | refine blk_drew ?_ | refine blk_alloc ?_ _)); exact BK164.out)) : gb171 ≠ gb164)); clear HO_8; clear BK161; clear BK162; clear BK163; clear BK164; clear HB; have HO_8 := n0_; have BK161 := n1_; have BK162 := n2_; have BK163 := n3_; have BK164 := n4_; have HB := n5_; have BK171 := n6_; have GW171 := n7_; have GE171 := n8_; have NB161_171 := n9_; have NB171_161 := n10_; have NB162_171 := n11_; have NB171_162 := n12_; have NB163_171 := n13_; have NB171_163 := n14_; have NB164_171 := n15_; have NB171_164 := n16_; clear n0_ n1_ n2_ n3_ n4_ n5_ n6_ n7_ n8_ n9_ n10_ n11_ n12_ n13_ n14_ n15_ n16_; clear hb hbox hg; have hnb51 := NB171_161.out; have hnc51 := NB161_171.out; have hnb52 := NB171_162.out; have hnc52 := NB162_171.out; have hnb53 := NB171_163.out; have hnc53 := NB163_171.out; have hnb54 := NB171_164.out; have hnc54 := NB164_171.out; have hcz55_0 : w50.cell? ⟨gb171, 0, none⟩ = some (.int .i64 0) := (blk_cell BK171.out 0).trans rfl; have hcz55_1 : w50.cell? ⟨gb171, 1, none⟩ = some (.int .i64 0) := (blk_cell BK171.out 1).trans rfl; have hcz55_2 : w50.cell? ⟨gb171, 2, none⟩ = some (.int .i64 0) := (blk_cell BK171.out 2).trans rfl; have hcz55_3 : w50.cell? ⟨gb171, 3, none⟩ = some (.int .i64 0) := (blk_cell BK171.out 3).trans rfl; have hfz55_0 := blk_frozen BK171.out 0; have hfz55_1 := blk_frozen BK171.out 1; have hfz55_2 := blk_frozen BK171.out 2; have hfz55_3 := blk_frozen BK171.out 3))
              go_ret2
              exact ⟨_, by first | rfl | (simp [errW_none, errW_some] <;> rfl) | (simp [*, errW_none, errW_some] <;> rfl), by first | exact Kd.R_nil _ _ _ _ _ | exact Kd.N_nil _ _ _ _ _ | exact Kd.V_nil _ _ _ _ _ | exact Kd.Q_nil _ _ _ _ _ | exact Kd.S_nil _ _ _ _ _, by repeat (first | (with_reducible first | exact HB.out | apply below_alloc | apply pw_below_drewN | apply below_drew1 | refine below_set ?_ GE161.out | refine below_set ?_ GE162.out | refine below_set ?_ GE163.out | refine below_set ?_ GE164.out | refine below_set ?_ GE171.out) | exact HB.out)⟩
          · rw [if_neg c15] at H
            exact absurd H (by simp)
        · rw [if_neg c14] at H
          exact absurd H (by simp)
      · rw [if_neg c13] at H
        have c13b0 : decide (x17_1 < (l0.length : Int)) = false := decide_eq_false c13
        clear c13
        simp only [Option.some.injEq, Prod.mk.injEq] at H
        obtain ⟨rfl, rfl⟩ := H
        go_wp2
        go_ret2
        exact ⟨_, by first | rfl | (simp [errW_none, errW_some] <;> rfl) | (simp [*, errW_none, errW_some] <;> rfl), by (with_reducible repeat (first | apply Kd.R_alloc | apply Kd.R_drewN | apply Kd.R_drew)); exact Kd.R_mono HO_8.out (fun _ hk => trivial), by repeat (first | (with_reducible first | exact HB.out | apply below_alloc | apply pw_below_drewN | apply below_drew1 | refine below_set ?_ GE161.out | refine below_set ?_ GE162.out | refine below_set ?_ GE163.out | refine below_set ?_ GE164.out) | exact HB.out)⟩

end Go.Proofs.Ytalnlphinlfenaa.S
