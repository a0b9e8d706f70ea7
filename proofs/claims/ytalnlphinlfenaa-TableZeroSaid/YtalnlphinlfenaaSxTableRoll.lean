/- Printed by a program of this session out of the translation: what each function called here computes, and that its call comes to just that. Conditions: none beyond those that each theorem names. -/
import Derived.Test.YtalnlphinlfenaaSx0
import Derived.Test.YtalnlphinlfenaaSxTableWithinInt
import Derived.Test.YtalnlphinlfenaaSxTableWithinInt64
import Derived.Test.YtalnlphinlfenaaSxRateMay
import Derived.Test.YtalnlphinlfenaaSxTableScanInt64TableRowTableRoll1
namespace Go.Proofs.Ytalnlphinlfenaa.S
open Go.RowKit Go.Proofs.YtalnlphinlfenaaW.PrintWords Go.Proofs.YtalnlphinlfenaaW.PrintLast Go.Proofs.YtalnlphinlfenaaW.PrintMore
attribute [local go_sem] max2_int min2_int max_two min_two max_three min_three max_four min_four   -- for this text's walks alone
attribute [local go_sem] Go.Proofs.Ytalnlphinlfenaa.XWalk.cell2
set_option linter.unusedVariables false
set_option linter.unusedSimpArgs false

/-! ### table_Roll: function 12 -/
mutual
def table_Roll.j0 : Nat → Int → Bool → List Int → Int → Option ((List (S37)) × Int)
  | 0, _, _, _, _ => none
  | k + 1, x0, x23, x176000, x177000 => if x23 = true then (some (([] : List (S37)), 2)) else (table_Roll.l0 k x0 x176000 (x176000.length : Int) 0 x176000 x177000)
def table_Roll.l0 : Nat → Int → List Int → Int → Int → List Int → Int → Option ((List (S37)) × Int)
  | 0, _, _, _, _, _, _ => none
  | k + 1, x0, x24, x25, x26, x176000, x177000 => if x26 < x25 then (if 0 ≤ x26 then (if x26 < (x24.length : Int) then ((table_within_int64.f (rd x24 x26) 0 10000000000000).bind fun t181 => (if t181 = true then (table_Roll.l0 k x0 x24 x25 (wrap64 (x26 + 1)) x176000 x177000) else (some (([] : List (S37)), 2)))) else (none)) else (none)) else ((table_scan_int64_table_Row__table_Roll_1.f k x176000 0 0 0 x0 x176000 x177000).bind fun bt182 => (some (bt182.1, bt182.2)))
end
def table_Roll.f (k : Nat) (a0 : Int) (l1 : List Int) (a2 : Int) : Option ((List (S37)) × Int) := (table_within_int.f (l1.length : Int) 1 600).bind fun t177 => (if t177 = true then ((table_within_int64.f a0 1 10000000000000).bind fun t178 => (if t178 = true then ((rate_May.f a2).bind fun t179 => (table_Roll.j0 k a0 (!t179) l1 a2)) else (table_Roll.j0 k a0 true l1 a2))) else (table_Roll.j0 k a0 true l1 a2))
theorem table_Roll.mono_l : ∀ k, (∀ y0 y1 y2 y3, LeO (table_Roll.j0 k y0 y1 y2 y3) (table_Roll.j0 (k + 1) y0 y1 y2 y3)) ∧ (∀ y0 y1 y2 y3 y4 y5, LeO (table_Roll.l0 k y0 y1 y2 y3 y4 y5) (table_Roll.l0 (k + 1) y0 y1 y2 y3 y4 y5))
  | 0 => ⟨fun _ _ _ _ r h => by simp [table_Roll.j0] at h, fun _ _ _ _ _ _ r h => by simp [table_Roll.l0] at h⟩
  | k + 1 => by
    obtain ⟨ih0, ih1⟩ := table_Roll.mono_l k
    refine ⟨?_, ?_⟩
    · intro y0 y1 y2 y3
      unfold table_Roll.j0
      repeat' first
      | (with_reducible exact ih0 _ _ _ _)
      | (with_reducible exact ih1 _ _ _ _ _ _)
      | (with_reducible exact table_scan_int64_table_Row__table_Roll_1.mono _ _ _ _ _ _ _ _)
      | (with_reducible exact LeO.refl _)
      | (with_reducible exact LeO.none _)
      | (with_reducible refine LeO.ite ?_ ?_)
      | (with_reducible refine LeO.bind ?_ (fun _ => ?_))
      | exact ih0 _ _ _ _
      | exact ih1 _ _ _ _ _ _
      | exact table_scan_int64_table_Row__table_Roll_1.mono _ _ _ _ _ _ _ _
      | exact LeO.none _
      | refine LeO.ite ?_ ?_
      | refine LeO.bind ?_ (fun _ => ?_)
    · intro y0 y1 y2 y3 y4 y5
      unfold table_Roll.l0
      repeat' first
      | (with_reducible exact ih0 _ _ _ _)
      | (with_reducible exact ih1 _ _ _ _ _ _)
      | (with_reducible exact table_scan_int64_table_Row__table_Roll_1.mono _ _ _ _ _ _ _ _)
      | (with_reducible exact LeO.refl _)
      | (with_reducible exact LeO.none _)
      | (with_reducible refine LeO.ite ?_ ?_)
      | (with_reducible refine LeO.bind ?_ (fun _ => ?_))
      | exact ih0 _ _ _ _
      | exact ih1 _ _ _ _ _ _
      | exact table_scan_int64_table_Row__table_Roll_1.mono _ _ _ _ _ _ _ _
      | exact LeO.none _
      | refine LeO.ite ?_ ?_
      | refine LeO.bind ?_ (fun _ => ?_)
theorem table_Roll.mono : ∀ a0 a1 a2 k, LeO (table_Roll.f k a0 a1 a2) (table_Roll.f (k + 1) a0 a1 a2) := by
  intro a0 a1 a2 k
  obtain ⟨ih0, ih1⟩ := table_Roll.mono_l k
  unfold table_Roll.f
  repeat' first
      | (with_reducible exact ih0 _ _ _ _)
      | (with_reducible exact ih1 _ _ _ _ _ _)
      | (with_reducible exact table_scan_int64_table_Row__table_Roll_1.mono _ _ _ _ _ _ _ _)
      | (with_reducible exact LeO.refl _)
      | (with_reducible exact LeO.none _)
      | (with_reducible refine LeO.ite ?_ ?_)
      | (with_reducible refine LeO.bind ?_ (fun _ => ?_))
      | exact ih0 _ _ _ _
      | exact ih1 _ _ _ _ _ _
      | exact table_scan_int64_table_Row__table_Roll_1.mono _ _ _ _ _ _ _ _
      | exact LeO.none _
      | refine LeO.ite ?_ ?_
      | refine LeO.bind ?_ (fun _ => ?_)
set_option maxHeartbeats 8000000 in
set_option maxRecDepth 100000 in
theorem table_Roll.calls (k : Nat) (a0 : Int) (A1 : Option Addr) (c1 : Nat) (l1 : List Int) (a2 : Int) (r1 : List (S37)) (r2 : Int) (w : World) (hr1 : Kd.C (Kd.int .i64) w A1 l1.length l1) (hc1 : l1.length ≤ c1) (h : table_Roll.f k a0 l1 a2 = some (r1, r2)) :
    Calls Try.prog 12 #[.int .i64 a0, .slice A1 l1.length c1, .int .i64 a2] w fun e w' => ∃ v0_ : Value, e = .returned (.tuple #[v0_, .int .i64 r2]) ∧ Kd.R k37 37 w' w.heap.size (fun _ => True) v0_ r1 ∧ Below w.heap.size w w' := by
  have hu37 := Try.underlying37
  have HR1 := Aside0.mk hr1
  have HC1 := Aside0.mk hc1
  clear hr1 hc1
  have HB := Aside0.mk (Below.refl w.heap.size w)
  have H : ((table_within_int.f (l1.length : Int) 1 600).bind fun t177 => (if t177 = true then ((table_within_int64.f a0 1 10000000000000).bind fun t178 => (if t178 = true then ((rate_May.f a2).bind fun t179 => (table_Roll.j0 k a0 (!t179) l1 a2)) else (table_Roll.j0 k a0 true l1 a2))) else (table_Roll.j0 k a0 true l1 a2))) = some (r1, r2) := h
  clear h
  have HC4 := Aside0.mk H
  clear H
  go_enter Try.func12, Try.ntmps12
  go_upto_region 1 with (first | ((with_reducible refine gate_dst (N := 4) rfl ?_); refine box_event ?hg (N := 4) ?hd (cs := #[.slice A1 l1.length c1]) (t := 22) ?hr ?_; (case hd => rfl); (case hg => rfl); (case hr => first | (go_simp; done) | (go_simp; rfl)); intro gb175 hg w5 hbox hb; have n0_ := Aside0.mk (below_step (by repeat (first | (with_reducible first | exact HB.out | apply below_alloc | apply pw_below_drewN | apply below_drew1) | exact HB.out)) hb); have n1_ := Aside0.mk (hbox); have n2_ := Aside0.mk ((by rw [hg]; exact (below_size (by repeat (first | (with_reducible first | exact HB.out | apply below_alloc | apply pw_below_drewN | apply below_drew1) | exact HB.out))) : w.heap.size ≤ gb175)); have n3_ := Aside0.mk ((by rw [hg]; exact (below_size (by repeat (first | (with_reducible first | exact HB.out | apply below_alloc | apply pw_below_drewN | apply below_drew1) | exact HB.out))) : w.heap.size ≤ gb175)); clear HB; have HB := n0_; have BK175 := n1_; have GW175 := n2_; have GE175 := n3_; clear n0_ n1_ n2_ n3_; clear hb hbox hg) | ((with_reducible refine gate_dst (N := 5) rfl ?_); refine box_event ?hg (N := 5) ?hd (cs := #[.int .i64 a2]) (t := 2) ?hr ?_; (case hd => rfl); (case hg => rfl); (case hr => first | (go_simp; done) | (go_simp; rfl)); intro gb176 hg w6 hbox hb; have n0_ := Aside0.mk (blk_below (g := gb175) (o := .cells #[.slice A1 l1.length c1] 22 (0, 0)) (by (with_reducible repeat (first | refine blk_drewN ?_ _ | refine blk_drew ?_ | refine blk_alloc ?_ _)); exact BK175.out) hb); have n1_ := Aside0.mk (below_step (by repeat (first | (with_reducible first | exact HB.out | apply below_alloc | apply pw_below_drewN | apply below_drew1 | refine below_set ?_ GE175.out) | exact HB.out)) hb); have n2_ := Aside0.mk (hbox); have n3_ := Aside0.mk ((by rw [hg]; exact (below_size (by repeat (first | (with_reducible first | exact HB.out | apply below_alloc | apply pw_below_drewN | apply below_drew1 | refine below_set ?_ GE175.out) | exact HB.out))) : w.heap.size ≤ gb176)); have n4_ := Aside0.mk ((by rw [hg]; exact (below_size (by repeat (first | (with_reducible first | exact HB.out | apply below_alloc | apply pw_below_drewN | apply below_drew1 | refine below_set ?_ GE175.out) | exact HB.out))) : w.heap.size ≤ gb176)); have n5_ := Aside0.mk ((by rw [hg]; exact Nat.ne_of_lt (blk_lt (g := gb175) (o := .cells #[.slice A1 l1.length c1] 22 (0, 0)) (by (with_reducible repeat (first | refine blk_drewN ?_ _ | refine blk_drew ?_ | refine blk_alloc ?_ _)); exact BK175.out)) : gb175 ≠ gb176)); have n6_ := Aside0.mk ((by rw [hg]; exact Nat.ne_of_gt (blk_lt (g := gb175) (o := .cells #[.slice A1 l1.length c1] 22 (0, 0)) (by (with_reducible repeat (first | refine blk_drewN ?_ _ | refine blk_drew ?_ | refine blk_alloc ?_ _)); exact BK175.out)) : gb176 ≠ gb175)); clear BK175; clear HB; have BK175 := n0_; have HB := n1_; have BK176 := n2_; have GW176 := n3_; have GE176 := n4_; have NB175_176 := n5_; have NB176_175 := n6_; clear n0_ n1_ n2_ n3_ n4_ n5_ n6_; clear hb hbox hg))
  (try simp only [Act.put, List.setIfInBounds_toArray, List.set_cons_zero, List.set_cons_succ])
  go_cut [23] (fun v23 wc => ∃ (kq : Nat) (x23_3 : Bool), v23 = .bool x23_3 ∧ Aside0 (table_Roll.j0 kq a0 x23_3 l1 a2 = some (r1, r2)) ∧ Aside0 (kq ≤ k) ∧ Aside0 (wc.heap[gb175]? = some (.cells #[(.slice A1 l1.length c1)] 22 (0, 0))) ∧ Aside0 (wc.heap[gb176]? = some (.cells #[.int .i64 a2] 2 (0, 0))) ∧ Aside0 (Below w.heap.size w wc))
  case first =>
    have H := HC4.out
    clear HC4
    replace H := Option.bind_eq_some_iff.mp H
    obtain ⟨t177, A70, H⟩ := H
    replace H : (if t177 = true then ((table_within_int64.f a0 1 10000000000000).bind fun t178 => (if t178 = true then ((rate_May.f a2).bind fun t179 => (table_Roll.j0 k a0 (!t179) l1 a2)) else (table_Roll.j0 k a0 true l1 a2))) else (table_Roll.j0 k a0 true l1 a2)) = some (r1, r2) := H
    have A7 := Aside0.mk A70
    clear A70
    by_cases c8 : t177 = true
    · subst c8
      have H1 : ((table_within_int64.f a0 1 10000000000000).bind fun t178 => (if t178 = true then ((rate_May.f a2).bind fun t179 => (table_Roll.j0 k a0 (!t179) l1 a2)) else (table_Roll.j0 k a0 true l1 a2))) = some (r1, r2) := by rw [if_pos rfl] at H; exact H
      clear H
      have H := H1
      clear H1
      replace H := Option.bind_eq_some_iff.mp H
      obtain ⟨t178, A90, H⟩ := H
      replace H : (if t178 = true then ((rate_May.f a2).bind fun t179 => (table_Roll.j0 k a0 (!t179) l1 a2)) else (table_Roll.j0 k a0 true l1 a2)) = some (r1, r2) := H
      have A9 := Aside0.mk A90
      clear A90
      by_cases c10 : t178 = true
      · subst c10
        have H1 : ((rate_May.f a2).bind fun t179 => (table_Roll.j0 k a0 (!t179) l1 a2)) = some (r1, r2) := by rw [if_pos rfl] at H; exact H
        clear H
        have H := H1
        clear H1
        replace H := Option.bind_eq_some_iff.mp H
        obtain ⟨t179, A110, H⟩ := H
        replace H : (table_Roll.j0 k a0 (!t179) l1 a2) = some (r1, r2) := H
        have A11 := Aside0.mk A110
        clear A110
        have H' := Aside0.mk H
        clear H
        have hnb12 := NB175_176.out
        have hnc12 := NB176_175.out
        have hcz13_0 : w6.cell? ⟨gb175, 0, none⟩ = some (.slice A1 l1.length c1) := (blk_cell BK175.out 0).trans rfl
        have hfz13_0 := blk_frozen BK175.out 0
        go_wp2_with (first | ((with_reducible refine gate_callee (f := 28) rfl ?_); refine goesL_ (some 12) rfl rfl Try.func28 (by kernel_rfl) rfl #[.int .i64 (l1.length : Int), .int .i64 1, .int .i64 600] rfl (by (try simp only [List.map_toArray, List.map_cons, List.map_nil]); first | done | rfl | (simp only [List.length_drop, List.length_take]; rfl)) ?_; (with_reducible refine (table_within_int.calls (l1.length : Int) 1 600 true _ A7.out).mono ?_); rintro e w' ⟨rfl, ⟨nd, rfl⟩⟩; refine ⟨_, rfl, ?_⟩) | (go_at_call 29; (with_reducible refine (table_within_int64.calls a0 1 10000000000000 true _ A9.out).mono ?_); rintro e w' ⟨rfl, ⟨nd, rfl⟩⟩; have hcz14_0 : w6.cell? ⟨gb176, 0, none⟩ = some (.int .i64 a2) := (blk_cell BK176.out 0).trans rfl; have hfz14_0 := blk_frozen BK176.out 0) | (go_at_call 30; (with_reducible refine (rate_May.calls a2 t179 _ A11.out).mono ?_); rintro e w' ⟨rfl, ⟨nd, rfl⟩⟩))
        go_meet
        case rel => exact ⟨_, (!t179), (by first | rfl | (simp; done) | (simp [*]; done)), H', ⟨by first | omega | exact Nat.le_refl _⟩, ⟨by (with_reducible repeat (first | refine blk_drewN ?_ _ | refine blk_drew ?_ | refine blk_alloc ?_ _)); exact BK175.out⟩, ⟨by (with_reducible repeat (first | refine blk_drewN ?_ _ | refine blk_drew ?_ | refine blk_alloc ?_ _)); exact BK176.out⟩, ⟨by repeat (first | (with_reducible first | exact HB.out | apply below_alloc | apply pw_below_drewN | apply below_drew1 | refine below_set ?_ GE175.out | refine below_set ?_ GE176.out) | exact HB.out)⟩⟩
      · replace c10 := Bool.eq_false_iff.mpr c10
        subst c10
        have H1 : (table_Roll.j0 k a0 true l1 a2) = some (r1, r2) := by rw [if_neg (show ¬ (false = true) by decide)] at H; exact H
        clear H
        have H := H1
        clear H1
        have H' := Aside0.mk H
        clear H
        have hnb15 := NB175_176.out
        have hnc15 := NB176_175.out
        have hcz16_0 : w6.cell? ⟨gb175, 0, none⟩ = some (.slice A1 l1.length c1) := (blk_cell BK175.out 0).trans rfl
        have hfz16_0 := blk_frozen BK175.out 0
        go_wp2_with (first | ((with_reducible refine gate_callee (f := 28) rfl ?_); refine goesL_ (some 12) rfl rfl Try.func28 (by kernel_rfl) rfl #[.int .i64 (l1.length : Int), .int .i64 1, .int .i64 600] rfl (by (try simp only [List.map_toArray, List.map_cons, List.map_nil]); first | done | rfl | (simp only [List.length_drop, List.length_take]; rfl)) ?_; (with_reducible refine (table_within_int.calls (l1.length : Int) 1 600 true _ A7.out).mono ?_); rintro e w' ⟨rfl, ⟨nd, rfl⟩⟩; refine ⟨_, rfl, ?_⟩) | (go_at_call 29; (with_reducible refine (table_within_int64.calls a0 1 10000000000000 false _ A9.out).mono ?_); rintro e w' ⟨rfl, ⟨nd, rfl⟩⟩))
        go_meet
        case rel => exact ⟨_, (true), (by first | rfl | (simp; done) | (simp [*]; done)), H', ⟨by first | omega | exact Nat.le_refl _⟩, ⟨by (with_reducible repeat (first | refine blk_drewN ?_ _ | refine blk_drew ?_ | refine blk_alloc ?_ _)); exact BK175.out⟩, ⟨by (with_reducible repeat (first | refine blk_drewN ?_ _ | refine blk_drew ?_ | refine blk_alloc ?_ _)); exact BK176.out⟩, ⟨by repeat (first | (with_reducible first | exact HB.out | apply below_alloc | apply pw_below_drewN | apply below_drew1 | refine below_set ?_ GE175.out | refine below_set ?_ GE176.out) | exact HB.out)⟩⟩
    · replace c8 := Bool.eq_false_iff.mpr c8
      subst c8
      have H1 : (table_Roll.j0 k a0 true l1 a2) = some (r1, r2) := by rw [if_neg (show ¬ (false = true) by decide)] at H; exact H
      clear H
      have H := H1
      clear H1
      have H' := Aside0.mk H
      clear H
      have hnb17 := NB175_176.out
      have hnc17 := NB176_175.out
      have hcz18_0 : w6.cell? ⟨gb175, 0, none⟩ = some (.slice A1 l1.length c1) := (blk_cell BK175.out 0).trans rfl
      have hfz18_0 := blk_frozen BK175.out 0
      go_wp2_with (first | ((with_reducible refine gate_callee (f := 28) rfl ?_); refine goesL_ (some 12) rfl rfl Try.func28 (by kernel_rfl) rfl #[.int .i64 (l1.length : Int), .int .i64 1, .int .i64 600] rfl (by (try simp only [List.map_toArray, List.map_cons, List.map_nil]); first | done | rfl | (simp only [List.length_drop, List.length_take]; rfl)) ?_; (with_reducible refine (table_within_int.calls (l1.length : Int) 1 600 false _ A7.out).mono ?_); rintro e w' ⟨rfl, ⟨nd, rfl⟩⟩; refine ⟨_, rfl, ?_⟩))
      go_meet
      case rel => exact ⟨_, (true), (by first | rfl | (simp; done) | (simp [*]; done)), H', ⟨by first | omega | exact Nat.le_refl _⟩, ⟨by (with_reducible repeat (first | refine blk_drewN ?_ _ | refine blk_drew ?_ | refine blk_alloc ?_ _)); exact BK175.out⟩, ⟨by (with_reducible repeat (first | refine blk_drewN ?_ _ | refine blk_drew ?_ | refine blk_alloc ?_ _)); exact BK176.out⟩, ⟨by repeat (first | (with_reducible first | exact HB.out | apply below_alloc | apply pw_below_drewN | apply below_drew1 | refine below_set ?_ GE175.out | refine below_set ?_ GE176.out) | exact HB.out)⟩⟩
  case rest =>
    clear HC4
    try clear c1
    try clear c2
    try clear p2
    try clear c8
    try clear c10
    try clear c12
    try clear c15
    try clear c17
    try clear hcz13_0
    try clear hcz14_0
    try clear hcz16_0
    try clear hcz18_0
    try clear hfz13_0
    try clear hfz14_0
    try clear hfz16_0
    try clear hfz18_0
    obtain ⟨kq, x23_3, rfl, HA, HJ3, BK175, BK176, HB⟩ := hcut
    cases kq with
    | zero => exact absurd HA.out (by simp [table_Roll.j0])
    | succ kj3 =>
      have H := HA.out
      clear HA
      simp only [table_Roll.j0] at H
      by_cases c19 : x23_3 = true
      · subst c19
        have H1 : (some (([] : List (S37)), 2)) = some (r1, r2) := by rw [if_pos rfl] at H; exact H
        clear H
        have H := H1
        clear H1
        simp only [Option.some.injEq, Prod.mk.injEq] at H
        obtain ⟨rfl, rfl⟩ := H
        go_wp2
        go_ret2
        exact ⟨_, by first | rfl | (simp [errW_none, errW_some] <;> rfl) | (simp [*, errW_none, errW_some] <;> rfl), by first | exact Kd.R_nil _ _ _ _ _ | exact Kd.N_nil _ _ _ _ _ | exact Kd.V_nil _ _ _ _ _ | exact Kd.Q_nil _ _ _ _ _ | exact Kd.S_nil _ _ _ _ _, by repeat (first | (with_reducible first | exact HB.out | apply below_alloc | apply pw_below_drewN | apply below_drew1 | refine below_set ?_ GE175.out | refine below_set ?_ GE176.out) | exact HB.out)⟩
      · replace c19 := Bool.eq_false_iff.mpr c19
        subst c19
        have H1 : (table_Roll.l0 kj3 a0 l1 (l1.length : Int) 0 l1 a2) = some (r1, r2) := by rw [if_neg (show ¬ (false = true) by decide)] at H; exact H
        clear H
        have H := H1
        clear H1
        have H' := Aside0.mk H
        clear H
        have hnb20 := NB175_176.out
        have hnc20 := NB176_175.out
        have hcz21_0 : wc.cell? ⟨gb175, 0, none⟩ = some (.slice A1 l1.length c1) := (blk_cell BK175.out 0).trans rfl
        have hfz21_0 := blk_frozen BK175.out 0
        go_wp2
        go_loopg [26] kj3 (fun kq v26 w' => ∃ (x26_2 : Int), v26 = .int .i64 x26_2 ∧ Aside0 (table_Roll.l0 kq a0 l1 (l1.length : Int) x26_2 l1 a2 = some (r1, r2)) ∧ Aside0 (kq ≤ kj3) ∧ Aside0 (w'.heap[gb175]? = some (.cells #[(.slice A1 l1.length c1)] 22 (0, 0))) ∧ Aside0 (w'.heap[gb176]? = some (.cells #[.int .i64 a2] 2 (0, 0))) ∧ Aside0 (Below w.heap.size w w'))
        case atStart => exact ⟨(0), (by first | rfl | (simp; done) | (simp [*]; done)), H', ⟨Nat.le_refl _⟩, ⟨by (with_reducible repeat (first | refine blk_drewN ?_ _ | refine blk_drew ?_ | refine blk_alloc ?_ _)); exact BK175.out⟩, ⟨by (with_reducible repeat (first | refine blk_drewN ?_ _ | refine blk_drew ?_ | refine blk_alloc ?_ _)); exact BK176.out⟩, ⟨by repeat (first | (with_reducible first | exact HB.out | apply below_alloc | apply pw_below_drewN | apply below_drew1 | refine below_set ?_ GE175.out | refine below_set ?_ GE176.out) | exact HB.out)⟩⟩
        case round =>
          clear H'
          try clear c1
          try clear c2
          try clear p2
          try clear c8
          try clear c10
          try clear c12
          try clear c15
          try clear c17
          try clear c19
          try clear c20
          try clear hcz13_0
          try clear hcz14_0
          try clear hcz16_0
          try clear hcz18_0
          try clear hcz21_0
          try clear hfz13_0
          try clear hfz14_0
          try clear hfz16_0
          try clear hfz18_0
          try clear hfz21_0
          try clear p2
          obtain ⟨x26_2, rfl, HA, HK2, BK175, BK176, HB⟩ := hrel
          cases gk with
          | zero => exact absurd HA.out (by simp [table_Roll.l0])
          | succ k2 =>
            have H := HA.out
            clear HA
            simp only [table_Roll.l0] at H
            by_cases c22 : x26_2 < (l1.length : Int)
            · rw [if_pos c22] at H
              have c22b0 : decide (x26_2 < (l1.length : Int)) = true := decide_eq_true c22
              clear c22
              by_cases c23 : 0 ≤ x26_2
              · rw [if_pos c23] at H
                have c23b0 : decide (0 ≤ x26_2) = true := decide_eq_true c23
                clear c23
                by_cases c24 : x26_2 < (l1.length : Int)
                · rw [if_pos c24] at H
                  have c24b0 : decide (x26_2 < (l1.length : Int)) = true := decide_eq_true c24
                  clear c24
                  replace H := Option.bind_eq_some_iff.mp H
                  obtain ⟨t181, A250, H⟩ := H
                  replace H : (if t181 = true then (table_Roll.l0 k2 a0 l1 (l1.length : Int) (wrap64 (x26_2 + 1)) l1 a2) else (some (([] : List (S37)), 2))) = some (r1, r2) := H
                  have A25 := Aside0.mk A250
                  clear A250
                  by_cases c26 : t181 = true
                  · subst c26
                    have H1 : (table_Roll.l0 k2 a0 l1 (l1.length : Int) (wrap64 (x26_2 + 1)) l1 a2) = some (r1, r2) := by rw [if_pos rfl] at H; exact H
                    clear H
                    have H := H1
                    clear H1
                    have H' := Aside0.mk H
                    clear H
                    have p180 : 0 ≤ (x26_2 : Int) := of_decide_eq_true (by first | (with_reducible assumption) | assumption)
                    have q180 : x26_2 < (l1.length : Int) := of_decide_eq_true (by first | (with_reducible assumption) | assumption)
                    obtain ⟨ad180, e180, hx180_0⟩ := Kd.at_int HR1.out x26_2 p180 q180
                    cases e180
                    try replace hx180_0 := (HB.out.cell (World.block_lt_of_cell? w _ hx180_0)).trans hx180_0
                    replace p180 := eq_true p180
                    replace q180 := eq_true q180
                    go_wp2_with (first | ((with_reducible refine gate_callee (f := 29) rfl ?_); refine goesL_ (some 31) rfl rfl Try.func29 (by kernel_rfl) rfl #[.int .i64 (rd l1 x26_2), .int .i64 0, .int .i64 10000000000000] rfl (by (try simp only [List.map_toArray, List.map_cons, List.map_nil]); first | done | rfl | (simp only [List.length_drop, List.length_take]; rfl)) ?_; (with_reducible refine (table_within_int64.calls (rd l1 x26_2) 0 10000000000000 true _ A25.out).mono ?_); rintro e w' ⟨rfl, ⟨nd, rfl⟩⟩; refine ⟨_, rfl, ?_⟩))
                    go_roundg k2
                    case measure => have := HJ3.out; have := HK2.out; omega
                    case rel => exact ⟨(wrap64 (x26_2 + 1)), (by first | rfl | (simp; done) | (simp [*]; done)), H', ⟨by have := HJ3.out; have := HK2.out; omega⟩, ⟨by (with_reducible repeat (first | refine blk_drewN ?_ _ | refine blk_drew ?_ | refine blk_alloc ?_ _)); exact BK175.out⟩, ⟨by (with_reducible repeat (first | refine blk_drewN ?_ _ | refine blk_drew ?_ | refine blk_alloc ?_ _)); exact BK176.out⟩, ⟨by repeat (first | (with_reducible first | exact HB.out | apply below_alloc | apply pw_below_drewN | apply below_drew1 | refine below_set ?_ GE175.out | refine below_set ?_ GE176.out) | exact HB.out)⟩⟩
                  · replace c26 := Bool.eq_false_iff.mpr c26
                    subst c26
                    have H1 : (some (([] : List (S37)), 2)) = some (r1, r2) := by rw [if_neg (show ¬ (false = true) by decide)] at H; exact H
                    clear H
                    have H := H1
                    clear H1
                    simp only [Option.some.injEq, Prod.mk.injEq] at H
                    obtain ⟨rfl, rfl⟩ := H
                    have p180 : 0 ≤ (x26_2 : Int) := of_decide_eq_true (by first | (with_reducible assumption) | assumption)
                    have q180 : x26_2 < (l1.length : Int) := of_decide_eq_true (by first | (with_reducible assumption) | assumption)
                    obtain ⟨ad180, e180, hx180_0⟩ := Kd.at_int HR1.out x26_2 p180 q180
                    cases e180
                    try replace hx180_0 := (HB.out.cell (World.block_lt_of_cell? w _ hx180_0)).trans hx180_0
                    replace p180 := eq_true p180
                    replace q180 := eq_true q180
                    go_wp2_with (first | ((with_reducible refine gate_callee (f := 29) rfl ?_); refine goesL_ (some 31) rfl rfl Try.func29 (by kernel_rfl) rfl #[.int .i64 (rd l1 x26_2), .int .i64 0, .int .i64 10000000000000] rfl (by (try simp only [List.map_toArray, List.map_cons, List.map_nil]); first | done | rfl | (simp only [List.length_drop, List.length_take]; rfl)) ?_; (with_reducible refine (table_within_int64.calls (rd l1 x26_2) 0 10000000000000 false _ A25.out).mono ?_); rintro e w' ⟨rfl, ⟨nd, rfl⟩⟩; refine ⟨_, rfl, ?_⟩))
                    go_ret2
                    exact ⟨_, by first | rfl | (simp [errW_none, errW_some] <;> rfl) | (simp [*, errW_none, errW_some] <;> rfl), by first | exact Kd.R_nil _ _ _ _ _ | exact Kd.N_nil _ _ _ _ _ | exact Kd.V_nil _ _ _ _ _ | exact Kd.Q_nil _ _ _ _ _ | exact Kd.S_nil _ _ _ _ _, by repeat (first | (with_reducible first | exact HB.out | apply below_alloc | apply pw_below_drewN | apply below_drew1 | refine below_set ?_ GE175.out | refine below_set ?_ GE176.out) | exact HB.out)⟩
                · rw [if_neg c24] at H
                  exact absurd H (by simp)
              · rw [if_neg c23] at H
                exact absurd H (by simp)
            · rw [if_neg c22] at H
              have c22b0 : decide (x26_2 < (l1.length : Int)) = false := decide_eq_false c22
              clear c22
              replace H := Option.bind_eq_some_iff.mp H
              obtain ⟨⟨t182, t185⟩, A270, H⟩ := H
              replace H : (some (t182, t185)) = some (r1, r2) := H
              have A27 := Aside0.mk A270
              clear A270
              simp only [Option.some.injEq, Prod.mk.injEq] at H
              obtain ⟨rfl, rfl⟩ := H
              have hnb28 := NB175_176.out
              have hnc28 := NB176_175.out
              have hcz29_0 : wr.cell? ⟨gb175, 0, none⟩ = some (.slice A1 l1.length c1) := (blk_cell BK175.out 0).trans rfl
              have hfz29_0 := blk_frozen BK175.out 0
              have hcz30_0 : wr.cell? ⟨gb176, 0, none⟩ = some (.int .i64 a2) := (blk_cell BK176.out 0).trans rfl
              have hfz30_0 := blk_frozen BK176.out 0
              go_wp2_with (first | ((with_reducible refine gate_callee (f := 31) rfl ?_); refine goesL_ (some 38) rfl rfl Try.func31 (by kernel_rfl) rfl #[.slice A1 l1.length c1, .agg #[.int .i64 0, .int .i64 0, .int .i64 0, .int .i64 a0], .func (.func 32) #[] #[.pointer (some ⟨gb175, 0, none⟩), .pointer (some ⟨gb176, 0, none⟩)]] rfl (by (try simp only [List.map_toArray, List.map_cons, List.map_nil]); first | done | rfl | (simp only [List.length_drop, List.length_take]; rfl)) ?_; (with_reducible refine (table_scan_int64_table_Row__table_Roll_1.calls k2 _ _ l1 0 0 0 a0 gb175 A1 c1 l1 gb176 a2 t182 t185 _ ?side1 ?side2 ?side3 ?side4 ?side5 ?side6 A27.out).mono ?_); (case side1 => repeat (first | exact (Kd.C_below HR1.out HB.out) | (with_reducible refine Kd.C_alloc ?_ _) | (with_reducible refine Kd.C_drewN ?_ _) | (with_reducible refine Kd.C_drew ?_))); (case side2 => exact HC1.out); (case side3 => (with_reducible repeat (first | refine blk_drewN ?_ _ | refine blk_drew ?_ | refine blk_alloc ?_ _)); exact BK175.out); (case side4 => repeat (first | exact (Kd.C_below HR1.out HB.out) | (with_reducible refine Kd.C_alloc ?_ _) | (with_reducible refine Kd.C_drewN ?_ _) | (with_reducible refine Kd.C_drew ?_))); (case side5 => exact HC1.out); (case side6 => (with_reducible repeat (first | refine blk_drewN ?_ _ | refine blk_drew ?_ | refine blk_alloc ?_ _)); exact BK176.out); rintro e w31 ⟨v183, rfl, ho0, hb⟩; refine ⟨_, rfl, ?_⟩; have n0_ := Aside0.mk (Kd.R_lower ho0 (below_size (by repeat (first | (with_reducible first | exact HB.out | apply below_alloc | apply pw_below_drewN | apply below_drew1 | refine below_set ?_ GE175.out | refine below_set ?_ GE176.out) | exact HB.out)))); have n1_ := Aside0.mk (blk_below (g := gb175) (o := .cells #[.slice A1 l1.length c1] 22 (0, 0)) (by (with_reducible repeat (first | refine blk_drewN ?_ _ | refine blk_drew ?_ | refine blk_alloc ?_ _)); exact BK175.out) hb); have n2_ := Aside0.mk (blk_below (g := gb176) (o := .cells #[.int .i64 a2] 2 (0, 0)) (by (with_reducible repeat (first | refine blk_drewN ?_ _ | refine blk_drew ?_ | refine blk_alloc ?_ _)); exact BK176.out) hb); have n3_ := Aside0.mk (below_step (by repeat (first | (with_reducible first | exact HB.out | apply below_alloc | apply pw_below_drewN | apply below_drew1 | refine below_set ?_ GE175.out | refine below_set ?_ GE176.out) | exact HB.out)) hb); clear BK175; clear BK176; clear HB; have HO184 := n0_; have BK175 := n1_; have BK176 := n2_; have HB := n3_; clear n0_ n1_ n2_ n3_; (try clear hb); (try clear hb2); (try clear hk); (try clear hi); (try clear ho0)))
              go_ret2
              exact ⟨_, by first | rfl | (simp [errW_none, errW_some] <;> rfl) | (simp [*, errW_none, errW_some] <;> rfl), by (with_reducible repeat (first | apply Kd.R_alloc | apply Kd.R_drewN | apply Kd.R_drew)); exact HO184.out, by repeat (first | (with_reducible first | exact HB.out | apply below_alloc | apply pw_below_drewN | apply below_drew1 | refine below_set ?_ GE175.out | refine below_set ?_ GE176.out) | exact HB.out)⟩

end Go.Proofs.Ytalnlphinlfenaa.S
