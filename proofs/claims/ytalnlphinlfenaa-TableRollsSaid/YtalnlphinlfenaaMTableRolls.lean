/- The statement TableRollsSaid: for every input the law returns true, and each argument reads afterwards as it read before. Conditions: none. -/
import Derived.Test.YtalnlphinlfenaaSx0
import Derived.Test.YtalnlphinlfenaaSxTableWithinInt64
import Derived.Test.YtalnlphinlfenaaSxRateMay
import Derived.Test.YtalnlphinlfenaaMTableRolls1
import Derived.Test.YtalnlphinlfenaaSxRateInterest
import Derived.Test.YtalnlphinlfenaaSxMoneySub
import Derived.Test.YtalnlphinlfenaaWWords
import Derived.Lib.Mul64
import Derived.Lib.EndianBits
import Derived.Test.YtalnlphinlfenaaSxMathBitsMul64
import Derived.Test.YtalnlphinlfenaaSxMathBitsDiv64
import Derived.Test.YtalnlphinlfenaaSxWideMulDiv
import Derived.Test.YtalnlphinlfenaaSxMoneyAdd
import Derived.Handy
import Derived.SizedLaws
import Derived.ChangeSlices
import Derived.Test.YtalnlphinlfenaaRows
import Derived.WalkKit
import Derived.ProofKit
import Derived.OpenShut
import Derived.ShutString
import Derived.ChangeOld
import Derived.Below
section
namespace Go.Proofs.Ytalnlphinlfenaa.S
open Go.RowKit Go.Proofs.YtalnlphinlfenaaW.PrintWords Go.Proofs.YtalnlphinlfenaaW.PrintLast Go.Proofs.YtalnlphinlfenaaW.PrintMore
attribute [local go_sem] max2_int min2_int max_two min_two max_three min_three max_four min_four   -- for this text's walks alone
attribute [local go_sem] Go.Proofs.Ytalnlphinlfenaa.XWalk.cell2
set_option linter.unusedVariables false
set_option linter.unusedSimpArgs false

/-! ### table_within_int: function 28 -/
def table_within_int.f (a0 : Int) (a1 : Int) (a2 : Int) : Option (Bool) := if a0 ≥ a1 then (some (decide (a0 ≤ a2))) else (some false)
set_option maxHeartbeats 8000000 in
set_option maxRecDepth 100000 in
theorem table_within_int.calls (a0 : Int) (a1 : Int) (a2 : Int) (r : Bool) (w : World) (h : table_within_int.f a0 a1 a2 = some r) :
    Calls Try.prog 28 #[.int .i64 a0, .int .i64 a1, .int .i64 a2] w fun e w' => e = .returned (.bool r) ∧ Drawn0 w w' := by
  have H : (if a0 ≥ a1 then (some (decide (a0 ≤ a2))) else (some false)) = some r := h
  clear h
  by_cases c4 : a0 ≥ a1
  · rw [if_pos c4] at H
    have c4b0 : decide (a1 ≤ a0) = true := decide_eq_true c4
    clear c4
    obtain rfl := Option.some.inj H
    go_enter Try.func28, Try.ntmps28
    go_wp2
    go_ret
    exact ⟨by first | rfl | (simp; done) | (simp [*]; done), by repeat (first | exact Drawn0.refl _ | apply Drawn0.step)⟩
  · rw [if_neg c4] at H
    have c4b0 : decide (a1 ≤ a0) = false := decide_eq_false c4
    clear c4
    obtain rfl := Option.some.inj H
    go_enter Try.func28, Try.ntmps28
    go_wp2
    go_ret
    exact ⟨by first | rfl | (simp; done) | (simp [*]; done), by repeat (first | exact Drawn0.refl _ | apply Drawn0.step)⟩

end Go.Proofs.Ytalnlphinlfenaa.S
end

section
namespace Go.Proofs.Ytalnlphinlfenaa.S
open Go.RowKit Go.Proofs.YtalnlphinlfenaaW.PrintWords Go.Proofs.YtalnlphinlfenaaW.PrintLast Go.Proofs.YtalnlphinlfenaaW.PrintMore
attribute [local go_sem] max2_int min2_int max_two min_two max_three min_three max_four min_four   -- for this text's walks alone
attribute [local go_sem] Go.Proofs.Ytalnlphinlfenaa.XWalk.cell2
set_option linter.unusedVariables false
set_option linter.unusedSimpArgs false

/-! ### table_Roll: function 12 -/
mutual
def table_Roll.j0 : Nat → Int → Bool → List Int → Int → Option ((List (S37)) × Int)
  | 0, _, _, _, _ => none
  | k + 1, x0, x23, x176000, x177000 => if x23 = true then (some (([] : List (S37)), 2)) else (table_Roll.l0 k x0 x176000 (x176000.length : Int) 0 x176000 x177000)
def table_Roll.l0 : Nat → Int → List Int → Int → Int → List Int → Int → Option ((List (S37)) × Int)
  | 0, _, _, _, _, _, _ => none
  | k + 1, x0, x24, x25, x26, x176000, x177000 => if x26 < x25 then (if 0 ≤ x26 then (if x26 < (x24.length : Int) then ((table_within_int64.f (rd x24 x26) 0 10000000000000).bind fun t181 => (if t181 = true then (table_Roll.l0 k x0 x24 x25 (wrap64 (x26 + 1)) x176000 x177000) else (some (([] : List (S37)), 2)))) else (none)) else (none)) else ((table_scan_int64_table_Row__table_Roll_1.f k x176000 0 0 0 x0 x176000 x177000).bind fun bt182 => (some (bt182.1, bt182.2)))
end
def table_Roll.f (k : Nat) (a0 : Int) (l1 : List Int) (a2 : Int) : Option ((List (S37)) × Int) := (table_within_int.f (l1.length : Int) 1 600).bind fun t177 => (if t177 = true then ((table_within_int64.f a0 1 10000000000000).bind fun t178 => (if t178 = true then ((rate_May.f a2).bind fun t179 => (table_Roll.j0 k a0 (!t179) l1 a2)) else (table_Roll.j0 k a0 true l1 a2))) else (table_Roll.j0 k a0 true l1 a2))
theorem table_Roll.mono_l : ∀ k, (∀ y0 y1 y2 y3, LeO (table_Roll.j0 k y0 y1 y2 y3) (table_Roll.j0 (k + 1) y0 y1 y2 y3)) ∧ (∀ y0 y1 y2 y3 y4 y5, LeO (table_Roll.l0 k y0 y1 y2 y3 y4 y5) (table_Roll.l0 (k + 1) y0 y1 y2 y3 y4 y5))
  | 0 => ⟨fun _ _ _ _ r h => by simp [table_Roll.j0] at h, fun _ _ _ _ _ _ r h => by simp [table_Roll.l0] at h⟩
  | k + 1 => by
    obtain ⟨ih0, ih1⟩ := table_Roll.mono_l k
    refine ⟨?_, ?_⟩
    · intro y0 y1 y2 y3
      unfold table_Roll.j0
      repeat' first
      | (with_reducible exact ih0 _ _ _ _)
      | (with_reducible exact ih1 _ _ _ _ _ _)
      | (with_reducible exact table_scan_int64_table_Row__table_Roll_1.mono _ _ _ _ _ _ _ _)
      | (with_reducible exact LeO.refl _)
      | (with_reducible exact LeO.none _)
      | (with_reducible refine LeO.ite ?_ ?_)
      | (with_reducible refine LeO.bind ?_ (fun _ => ?_))
      | exact ih0 _ _ _ _
      | exact ih1 _ _ _ _ _ _
      | exact table_scan_int64_table_Row__table_Roll_1.mono _ _ _ _ _ _ _ _
      | exact LeO.none _
      | refine LeO.ite ?_ ?_
      | refine LeO.bind ?_ (fun _ => ?_)
    · intro y0 y1 y2 y3 y4 y5
      unfold table_Roll.l0
      repeat' first
      | (with_reducible exact ih0 _ _ _ _)
      | (with_reducible exact ih1 _ _ _ _ _ _)
      | (with_reducible exact table_scan_int64_table_Row__table_Roll_1.mono _ _ _ _ _ _ _ _)
      | (with_reducible exact LeO.refl _)
      | (with_reducible exact LeO.none _)
      | (with_reducible refine LeO.ite ?_ ?_)
      | (with_reducible refine LeO.bind ?_ (fun _ => ?_))
      | exact ih0 _ _ _ _
      | exact ih1 _ _ _ _ _ _
      | exact table_scan_int64_table_Row__table_Roll_1.mono _ _ _ _ _ _ _ _
      | exact LeO.none _
      | refine LeO.ite ?_ ?_
      | refine LeO.bind ?_ (fun _ => ?_)
theorem table_Roll.mono : ∀ a0 a1 a2 k, LeO (table_Roll.f k a0 a1 a2) (table_Roll.f (k + 1) a0 a1 a2) := by
  intro a0 a1 a2 k
  obtain ⟨ih0, ih1⟩ := table_Roll.mono_l k
  unfold table_Roll.f
  repeat' first
      | (with_reducible exact ih0 _ _ _ _)
      | (with_reducible exact ih1 _ _ _ _ _ _)
      | (with_reducible exact table_scan_int64_table_Row__table_Roll_1.mono _ _ _ _ _ _ _ _)
      | (with_reducible exact LeO.refl _)
      | (with_reducible exact LeO.none _)
      | (with_reducible refine LeO.ite ?_ ?_)
      | (with_reducible refine LeO.bind ?_ (fun _ => ?_))
      | exact ih0 _ _ _ _
      | exact ih1 _ _ _ _ _ _
      | exact table_scan_int64_table_Row__table_Roll_1.mono _ _ _ _ _ _ _ _
      | exact LeO.none _
      | refine LeO.ite ?_ ?_
      | refine LeO.bind ?_ (fun _ => ?_)
set_option maxHeartbeats 8000000 in
set_option maxRecDepth 100000 in
theorem table_Roll.calls (k : Nat) (a0 : Int) (A1 : Option Addr) (c1 : Nat) (l1 : List Int) (a2 : Int) (r1 : List (S37)) (r2 : Int) (w : World) (hr1 : Kd.C (Kd.int .i64) w A1 l1.length l1) (hc1 : l1.length ≤ c1) (h : table_Roll.f k a0 l1 a2 = some (r1, r2)) :
    Calls Try.prog 12 #[.int .i64 a0, .slice A1 l1.length c1, .int .i64 a2] w fun e w' => ∃ v0_ : Value, e = .returned (.tuple #[v0_, .int .i64 r2]) ∧ Kd.R k37 37 w' w.heap.size (fun _ => True) v0_ r1 ∧ Below w.heap.size w w' := by
  have hu37 := Try.underlying37
  have HR1 := Aside0.mk hr1
  have HC1 := Aside0.mk hc1
  clear hr1 hc1
  have HB := Aside0.mk (Below.refl w.heap.size w)
  have H : ((table_within_int.f (l1.length : Int) 1 600).bind fun t177 => (if t177 = true then ((table_within_int64.f a0 1 10000000000000).bind fun t178 => (if t178 = true then ((rate_May.f a2).bind fun t179 => (table_Roll.j0 k a0 (!t179) l1 a2)) else (table_Roll.j0 k a0 true l1 a2))) else (table_Roll.j0 k a0 true l1 a2))) = some (r1, r2) := h
  clear h
  have HC4 := Aside0.mk H
  clear H
  go_enter Try.func12, Try.ntmps12
  go_upto_region 1 with (first | ((with_reducible refine gate_dst (N := 4) rfl ?_); refine box_event ?hg (N := 4) ?hd (cs := #[.slice A1 l1.length c1]) (t := 22) ?hr ?_; (case hd => rfl); (case hg => rfl); (case hr => first | (go_simp; done) | (go_simp; rfl)); intro gb175 hg w5 hbox hb; have n0_ := Aside0.mk (below_step (by repeat (first | (with_reducible first | exact HB.out | apply below_alloc | apply pw_below_drewN | apply below_drew1) | exact HB.out)) hb); have n1_ := Aside0.mk (hbox); have n2_ := Aside0.mk ((by rw [hg]; exact (below_size (by repeat (first | (with_reducible first | exact HB.out | apply below_alloc | apply pw_below_drewN | apply below_drew1) | exact HB.out))) : w.heap.size ≤ gb175)); have n3_ := Aside0.mk ((by rw [hg]; exact (below_size (by repeat (first | (with_reducible first | exact HB.out | apply below_alloc | apply pw_below_drewN | apply below_drew1) | exact HB.out))) : w.heap.size ≤ gb175)); clear HB; have HB := n0_; have BK175 := n1_; have GW175 := n2_; have GE175 := n3_; clear n0_ n1_ n2_ n3_; clear hb hbox hg) | ((with_reducible refine gate_dst (N := 5) rfl ?_); refine box_event ?hg (N := 5) ?hd (cs := #[.int .i64 a2]) (t := 2) ?hr ?_; (case hd => rfl); (case hg => rfl); (case hr => first | (go_simp; done) | (go_simp; rfl)); intro gb176 hg w6 hbox hb; have n0_ := Aside0.mk (blk_below (g := gb175) (o := .cells #[.slice A1 l1.length c1] 22 (0, 0)) (by (with_reducible repeat (first | refine blk_drewN ?_ _ | refine blk_drew ?_ | refine blk_alloc ?_ _)); exact BK175.out) hb); have n1_ := Aside0.mk (below_step (by repeat (first | (with_reducible first | exact HB.out | apply below_alloc | apply pw_below_drewN | apply below_drew1 | refine below_set ?_ GE175.out) | exact HB.out)) hb); have n2_ := Aside0.mk (hbox); have n3_ := Aside0.mk ((by rw [hg]; exact (below_size (by repeat (first | (with_reducible first | exact HB.out | apply below_alloc | apply pw_below_drewN | apply below_drew1 | refine below_set ?_ GE175.out) | exact HB.out))) : w.heap.size ≤ gb176)); have n4_ := Aside0.mk ((by rw [hg]; exact (below_size (by repeat (first | (with_reducible first | exact HB.out | apply below_alloc | apply pw_below_drewN | apply below_drew1 | refine below_set ?_ GE175.out) | exact HB.out))) : w.heap.size ≤ gb176)); have n5_ := Aside0.mk ((by rw [hg]; exact Nat.ne_of_lt (blk_lt (g := gb175) (o := .cells #[.slice A1 l1.length c1] 22 (0, 0)) (by (with_reducible repeat (first | refine blk_drewN ?_ _ | refine blk_drew ?_ | refine blk_alloc ?_ _)); exact BK175.out)) : gb175 ≠ gb176)); have n6_ := Aside0.mk ((by rw [hg]; exact Nat.ne_of_gt (blk_lt (g := gb175) (o := .cells #[.slice A1 l1.length c1] 22 (0, 0)) (by (with_reducible repeat (first | refine blk_drewN ?_ _ | refine blk_drew ?_ | refine blk_alloc ?_ _)); exact BK175.out)) : gb176 ≠ gb175)); clear BK175; clear HB; have BK175 := n0_; have HB := n1_; have BK176 := n2_; have GW176 := n3_; have GE176 := n4_; have NB175_176 := n5_; have NB176_175 := n6_; clear n0_ n1_ n2_ n3_ n4_ n5_ n6_; clear hb hbox hg))
  (try simp only [Act.put, List.setIfInBounds_toArray, List.set_cons_zero, List.set_cons_succ])
  go_cut [23] (fun v23 wc => ∃ (kq : Nat) (x23_3 : Bool), v23 = .bool x23_3 ∧ Aside0 (table_Roll.j0 kq a0 x23_3 l1 a2 = some (r1, r2)) ∧ Aside0 (kq ≤ k) ∧ Aside0 (wc.heap[gb175]? = some (.cells #[(.slice A1 l1.length c1)] 22 (0, 0))) ∧ Aside0 (wc.heap[gb176]? = some (.cells #[.int .i64 a2] 2 (0, 0))) ∧ Aside0 (Below w.heap.size w wc))
  case first =>
    have H := HC4.out
    clear HC4
    replace H := Option.bind_eq_some_iff.mp H
    obtain ⟨t177, A70, H⟩ := H
    replace H : (if t177 = true then ((table_within_int64.f a0 1 10000000000000).bind fun t178 => (if t178 = true then ((rate_May.f a2).bind fun t179 => (table_Roll.j0 k a0 (!t179) l1 a2)) else (table_Roll.j0 k a0 true l1 a2))) else (table_Roll.j0 k a0 true l1 a2)) = some (r1, r2) := H
    have A7 := Aside0.mk A70
    clear A70
    by_cases c8 : t177 = true
    · subst c8
      have H1 : ((table_within_int64.f a0 1 10000000000000).bind fun t178 => (if t178 = true then ((rate_May.f a2).bind fun t179 => (table_Roll.j0 k a0 (!t179) l1 a2)) else (table_Roll.j0 k a0 true l1 a2))) = some (r1, r2) := by rw [if_pos rfl] at H; exact H
      clear H
      have H := H1
      clear H1
      replace H := Option.bind_eq_some_iff.mp H
      obtain ⟨t178, A90, H⟩ := H
      replace H : (if t178 = true then ((rate_May.f a2).bind fun t179 => (table_Roll.j0 k a0 (!t179) l1 a2)) else (table_Roll.j0 k a0 true l1 a2)) = some (r1, r2) := H
      have A9 := Aside0.mk A90
      clear A90
      by_cases c10 : t178 = true
      · subst c10
        have H1 : ((rate_May.f a2).bind fun t179 => (table_Roll.j0 k a0 (!t179) l1 a2)) = some (r1, r2) := by rw [if_pos rfl] at H; exact H
        clear H
        have H := H1
        clear H1
        replace H := Option.bind_eq_some_iff.mp H
        obtain ⟨t179, A110, H⟩ := H
        replace H : (table_Roll.j0 k a0 (!t179) l1 a2) = some (r1, r2) := H
        have A11 := Aside0.mk A110
        clear A110
        have H' := Aside0.mk H
        clear H
        have hnb12 := NB175_176.out
        have hnc12 := NB176_175.out
        have hcz13_0 : w6.cell? ⟨gb175, 0, none⟩ = some (.slice A1 l1.length c1) := (blk_cell BK175.out 0).trans rfl
        have hfz13_0 := blk_frozen BK175.out 0
        go_wp2_with (first | ((with_reducible refine gate_callee (f := 28) rfl ?_); refine goesL_ (some 12) rfl rfl Try.func28 (by kernel_rfl) rfl #[.int .i64 (l1.length : Int), .int .i64 1, .int .i64 600] rfl (by (try simp only [List.map_toArray, List.map_cons, List.map_nil]); first | done | rfl | (simp only [List.length_drop, List.length_take]; rfl)) ?_; (with_reducible refine (table_within_int.calls (l1.length : Int) 1 600 true _ A7.out).mono ?_); rintro e w' ⟨rfl, ⟨nd, rfl⟩⟩; refine ⟨_, rfl, ?_⟩) | (go_at_call 29; (with_reducible refine (table_within_int64.calls a0 1 10000000000000 true _ A9.out).mono ?_); rintro e w' ⟨rfl, ⟨nd, rfl⟩⟩; have hcz14_0 : w6.cell? ⟨gb176, 0, none⟩ = some (.int .i64 a2) := (blk_cell BK176.out 0).trans rfl; have hfz14_0 := blk_frozen BK176.out 0) | (go_at_call 30; (with_reducible refine (rate_May.calls a2 t179 _ A11.out).mono ?_); rintro e w' ⟨rfl, ⟨nd, rfl⟩⟩))
        go_meet
        case rel => exact ⟨_, (!t179), (by first | rfl | (simp; done) | (simp [*]; done)), H', ⟨by first | omega | exact Nat.le_refl _⟩, ⟨by (with_reducible repeat (first | refine blk_drewN ?_ _ | refine blk_drew ?_ | refine blk_alloc ?_ _)); exact BK175.out⟩, ⟨by (with_reducible repeat (first | refine blk_drewN ?_ _ | refine blk_drew ?_ | refine blk_alloc ?_ _)); exact BK176.out⟩, ⟨by repeat (first | (with_reducible first | exact HB.out | apply below_alloc | apply pw_below_drewN | apply below_drew1 | refine below_set ?_ GE175.out | refine below_set ?_ GE176.out) | exact HB.out)⟩⟩
      · replace c10 := Bool.eq_false_iff.mpr c10
        subst c10
        have H1 : (table_Roll.j0 k a0 true l1 a2) = some (r1, r2) := by rw [if_neg (show ¬ (false = true) by decide)] at H; exact H
        clear H
        have H := H1
        clear H1
        have H' := Aside0.mk H
        clear H
        have hnb15 := NB175_176.out
        have hnc15 := NB176_175.out
        have hcz16_0 : w6.cell? ⟨gb175, 0, none⟩ = some (.slice A1 l1.length c1) := (blk_cell BK175.out 0).trans rfl
        have hfz16_0 := blk_frozen BK175.out 0
        go_wp2_with (first | ((with_reducible refine gate_callee (f := 28) rfl ?_); refine goesL_ (some 12) rfl rfl Try.func28 (by kernel_rfl) rfl #[.int .i64 (l1.length : Int), .int .i64 1, .int .i64 600] rfl (by (try simp only [List.map_toArray, List.map_cons, List.map_nil]); first | done | rfl | (simp only [List.length_drop, List.length_take]; rfl)) ?_; (with_reducible refine (table_within_int.calls (l1.length : Int) 1 600 true _ A7.out).mono ?_); rintro e w' ⟨rfl, ⟨nd, rfl⟩⟩; refine ⟨_, rfl, ?_⟩) | (go_at_call 29; (with_reducible refine (table_within_int64.calls a0 1 10000000000000 false _ A9.out).mono ?_); rintro e w' ⟨rfl, ⟨nd, rfl⟩⟩))
        go_meet
        case rel => exact ⟨_, (true), (by first | rfl | (simp; done) | (simp [*]; done)), H', ⟨by first | omega | exact Nat.le_refl _⟩, ⟨by (with_reducible repeat (first | refine blk_drewN ?_ _ | refine blk_drew ?_ | refine blk_alloc ?_ _)); exact BK175.out⟩, ⟨by (with_reducible repeat (first | refine blk_drewN ?_ _ | refine blk_drew ?_ | refine blk_alloc ?_ _)); exact BK176.out⟩, ⟨by repeat (first | (with_reducible first | exact HB.out | apply below_alloc | apply pw_below_drewN | apply below_drew1 | refine below_set ?_ GE175.out | refine below_set ?_ GE176.out) | exact HB.out)⟩⟩
    · replace c8 := Bool.eq_false_iff.mpr c8
      subst c8
      have H1 : (table_Roll.j0 k a0 true l1 a2) = some (r1, r2) := by rw [if_neg (show ¬ (false = true) by decide)] at H; exact H
      clear H
      have H := H1
      clear H1
      have H' := Aside0.mk H
      clear H
      have hnb17 := NB175_176.out
      have hnc17 := NB176_175.out
      have hcz18_0 : w6.cell? ⟨gb175, 0, none⟩ = some (.slice A1 l1.length c1) := (blk_cell BK175.out 0).trans rfl
      have hfz18_0 := blk_frozen BK175.out 0
      go_wp2_with (first | ((with_reducible refine gate_callee (f := 28) rfl ?_); refine goesL_ (some 12) rfl rfl Try.func28 (by kernel_rfl) rfl #[.int .i64 (l1.length : Int), .int .i64 1, .int .i64 600] rfl (by (try simp only [List.map_toArray, List.map_cons, List.map_nil]); first | done | rfl | (simp only [List.length_drop, List.length_take]; rfl)) ?_; (with_reducible refine (table_within_int.calls (l1.length : Int) 1 600 false _ A7.out).mono ?_); rintro e w' ⟨rfl, ⟨nd, rfl⟩⟩; refine ⟨_, rfl, ?_⟩))
      go_meet
      case rel => exact ⟨_, (true), (by first | rfl | (simp; done) | (simp [*]; done)), H', ⟨by first | omega | exact Nat.le_refl _⟩, ⟨by (with_reducible repeat (first | refine blk_drewN ?_ _ | refine blk_drew ?_ | refine blk_alloc ?_ _)); exact BK175.out⟩, ⟨by (with_reducible repeat (first | refine blk_drewN ?_ _ | refine blk_drew ?_ | refine blk_alloc ?_ _)); exact BK176.out⟩, ⟨by repeat (first | (with_reducible first | exact HB.out | apply below_alloc | apply pw_below_drewN | apply below_drew1 | refine below_set ?_ GE175.out | refine below_set ?_ GE176.out) | exact HB.out)⟩⟩
  case rest =>
    clear HC4
    try clear c1
    try clear c2
    try clear p2
    try clear c8
    try clear c10
    try clear c12
    try clear c15
    try clear c17
    try clear hcz13_0
    try clear hcz14_0
    try clear hcz16_0
    try clear hcz18_0
    try clear hfz13_0
    try clear hfz14_0
    try clear hfz16_0
    try clear hfz18_0
    obtain ⟨kq, x23_3, rfl, HA, HJ3, BK175, BK176, HB⟩ := hcut
    cases kq with
    | zero => exact absurd HA.out (by simp [table_Roll.j0])
    | succ kj3 =>
      have H := HA.out
      clear HA
      simp only [table_Roll.j0] at H
      by_cases c19 : x23_3 = true
      · subst c19
        have H1 : (some (([] : List (S37)), 2)) = some (r1, r2) := by rw [if_pos rfl] at H; exact H
        clear H
        have H := H1
        clear H1
        simp only [Option.some.injEq, Prod.mk.injEq] at H
        obtain ⟨rfl, rfl⟩ := H
        go_wp2
        go_ret2
        exact ⟨_, by first | rfl | (simp [errW_none, errW_some] <;> rfl) | (simp [*, errW_none, errW_some] <;> rfl), by first | exact Kd.R_nil _ _ _ _ _ | exact Kd.N_nil _ _ _ _ _ | exact Kd.V_nil _ _ _ _ _ | exact Kd.Q_nil _ _ _ _ _ | exact Kd.S_nil _ _ _ _ _, by repeat (first | (with_reducible first | exact HB.out | apply below_alloc | apply pw_below_drewN | apply below_drew1 | refine below_set ?_ GE175.out | refine below_set ?_ GE176.out) | exact HB.out)⟩
      · replace c19 := Bool.eq_false_iff.mpr c19
        subst c19
        have H1 : (table_Roll.l0 kj3 a0 l1 (l1.length : Int) 0 l1 a2) = some (r1, r2) := by rw [if_neg (show ¬ (false = true) by decide)] at H; exact H
        clear H
        have H := H1
        clear H1
        have H' := Aside0.mk H
        clear H
        have hnb20 := NB175_176.out
        have hnc20 := NB176_175.out
        have hcz21_0 : wc.cell? ⟨gb175, 0, none⟩ = some (.slice A1 l1.length c1) := (blk_cell BK175.out 0).trans rfl
        have hfz21_0 := blk_frozen BK175.out 0
        go_wp2
        go_loopg [26] kj3 (fun kq v26 w' => ∃ (x26_2 : Int), v26 = .int .i64 x26_2 ∧ Aside0 (table_Roll.l0 kq a0 l1 (l1.length : Int) x26_2 l1 a2 = some (r1, r2)) ∧ Aside0 (kq ≤ kj3) ∧ Aside0 (w'.heap[gb175]? = some (.cells #[(.slice A1 l1.length c1)] 22 (0, 0))) ∧ Aside0 (w'.heap[gb176]? = some (.cells #[.int .i64 a2] 2 (0, 0))) ∧ Aside0 (Below w.heap.size w w'))
        case atStart => exact ⟨(0), (by first | rfl | (simp; done) | (simp [*]; done)), H', ⟨Nat.le_refl _⟩, ⟨by (with_reducible repeat (first | refine blk_drewN ?_ _ | refine blk_drew ?_ | refine blk_alloc ?_ _)); exact BK175.out⟩, ⟨by (with_reducible repeat (first | refine blk_drewN ?_ _ | refine blk_drew ?_ | refine blk_alloc ?_ _)); exact BK176.out⟩, ⟨by repeat (first | (with_reducible first | exact HB.out | apply below_alloc | apply pw_below_drewN | apply below_drew1 | refine below_set ?_ GE175.out | refine below_set ?_ GE176.out) | exact HB.out)⟩⟩
        case round =>
          clear H'
          try clear c1
          try clear c2
          try clear p2
          try clear c8
          try clear c10
          try clear c12
          try clear c15
          try clear c17
          try clear c19
          try clear c20
          try clear hcz13_0
          try clear hcz14_0
          try clear hcz16_0
          try clear hcz18_0
          try clear hcz21_0
          try clear hfz13_0
          try clear hfz14_0
          try clear hfz16_0
          try clear hfz18_0
          try clear hfz21_0
          try clear p2
          obtain ⟨x26_2, rfl, HA, HK2, BK175, BK176, HB⟩ := hrel
          cases gk with
          | zero => exact absurd HA.out (by simp [table_Roll.l0])
          | succ k2 =>
            have H := HA.out
            clear HA
            simp only [table_Roll.l0] at H
            by_cases c22 : x26_2 < (l1.length : Int)
            · rw [if_pos c22] at H
              have c22b0 : decide (x26_2 < (l1.length : Int)) = true := decide_eq_true c22
              clear c22
              by_cases c23 : 0 ≤ x26_2
              · rw [if_pos c23] at H
                have c23b0 : decide (0 ≤ x26_2) = true := decide_eq_true c23
                clear c23
                by_cases c24 : x26_2 < (l1.length : Int)
                · rw [if_pos c24] at H
                  have c24b0 : decide (x26_2 < (l1.length : Int)) = true := decide_eq_true c24
                  clear c24
                  replace H := Option.bind_eq_some_iff.mp H
                  obtain ⟨t181, A250, H⟩ := H
                  replace H : (if t181 = true then (table_Roll.l0 k2 a0 l1 (l1.length : Int) (wrap64 (x26_2 + 1)) l1 a2) else (some (([] : List (S37)), 2))) = some (r1, r2) := H
                  have A25 := Aside0.mk A250
                  clear A250
                  by_cases c26 : t181 = true
                  · subst c26
                    have H1 : (table_Roll.l0 k2 a0 l1 (l1.length : Int) (wrap64 (x26_2 + 1)) l1 a2) = some (r1, r2) := by rw [if_pos rfl] at H; exact H
                    clear H
                    have H := H1
                    clear H1
                    have H' := Aside0.mk H
                    clear H
                    have p180 : 0 ≤ (x26_2 : Int) := of_decide_eq_true (by first | (with_reducible assumption) | assumption)
                    have q180 : x26_2 < (l1.length : Int) := of_decide_eq_true (by first | (with_reducible assumption) | assumption)
                    obtain ⟨ad180, e180, hx180_0⟩ := Kd.at_int HR1.out x26_2 p180 q180
                    cases e180
                    try replace hx180_0 := (HB.out.cell (World.block_lt_of_cell? w _ hx180_0)).trans hx180_0
                    replace p180 := eq_true p180
                    replace q180 := eq_true q180
                    go_wp2_with (first | ((with_reducible refine gate_callee (f := 29) rfl ?_); refine goesL_ (some 31) rfl rfl Try.func29 (by kernel_rfl) rfl #[.int .i64 (rd l1 x26_2), .int .i64 0, .int .i64 10000000000000] rfl (by (try simp only [List.map_toArray, List.map_cons, List.map_nil]); first | done | rfl | (simp only [List.length_drop, List.length_take]; rfl)) ?_; (with_reducible refine (table_within_int64.calls (rd l1 x26_2) 0 10000000000000 true _ A25.out).mono ?_); rintro e w' ⟨rfl, ⟨nd, rfl⟩⟩; refine ⟨_, rfl, ?_⟩))
                    go_roundg k2
                    case measure => have := HJ3.out; have := HK2.out; omega
                    case rel => exact ⟨(wrap64 (x26_2 + 1)), (by first | rfl | (simp; done) | (simp [*]; done)), H', ⟨by have := HJ3.out; have := HK2.out; omega⟩, ⟨by (with_reducible repeat (first | refine blk_drewN ?_ _ | refine blk_drew ?_ | refine blk_alloc ?_ _)); exact BK175.out⟩, ⟨by (with_reducible repeat (first | refine blk_drewN ?_ _ | refine blk_drew ?_ | refine blk_alloc ?_ _)); exact BK176.out⟩, ⟨by repeat (first | (with_reducible first | exact HB.out | apply below_alloc | apply pw_below_drewN | apply below_drew1 | refine below_set ?_ GE175.out | refine below_set ?_ GE176.out) | exact HB.out)⟩⟩
                  · replace c26 := Bool.eq_false_iff.mpr c26
                    subst c26
                    have H1 : (some (([] : List (S37)), 2)) = some (r1, r2) := by rw [if_neg (show ¬ (false = true) by decide)] at H; exact H
                    clear H
                    have H := H1
                    clear H1
                    simp only [Option.some.injEq, Prod.mk.injEq] at H
                    obtain ⟨rfl, rfl⟩ := H
                    have p180 : 0 ≤ (x26_2 : Int) := of_decide_eq_true (by first | (with_reducible assumption) | assumption)
                    have q180 : x26_2 < (l1.length : Int) := of_decide_eq_true (by first | (with_reducible assumption) | assumption)
                    obtain ⟨ad180, e180, hx180_0⟩ := Kd.at_int HR1.out x26_2 p180 q180
                    cases e180
                    try replace hx180_0 := (HB.out.cell (World.block_lt_of_cell? w _ hx180_0)).trans hx180_0
                    replace p180 := eq_true p180
                    replace q180 := eq_true q180
                    go_wp2_with (first | ((with_reducible refine gate_callee (f := 29) rfl ?_); refine goesL_ (some 31) rfl rfl Try.func29 (by kernel_rfl) rfl #[.int .i64 (rd l1 x26_2), .int .i64 0, .int .i64 10000000000000] rfl (by (try simp only [List.map_toArray, List.map_cons, List.map_nil]); first | done | rfl | (simp only [List.length_drop, List.length_take]; rfl)) ?_; (with_reducible refine (table_within_int64.calls (rd l1 x26_2) 0 10000000000000 false _ A25.out).mono ?_); rintro e w' ⟨rfl, ⟨nd, rfl⟩⟩; refine ⟨_, rfl, ?_⟩))
                    go_ret2
                    exact ⟨_, by first | rfl | (simp [errW_none, errW_some] <;> rfl) | (simp [*, errW_none, errW_some] <;> rfl), by first | exact Kd.R_nil _ _ _ _ _ | exact Kd.N_nil _ _ _ _ _ | exact Kd.V_nil _ _ _ _ _ | exact Kd.Q_nil _ _ _ _ _ | exact Kd.S_nil _ _ _ _ _, by repeat (first | (with_reducible first | exact HB.out | apply below_alloc | apply pw_below_drewN | apply below_drew1 | refine below_set ?_ GE175.out | refine below_set ?_ GE176.out) | exact HB.out)⟩
                · rw [if_neg c24] at H
                  exact absurd H (by simp)
              · rw [if_neg c23] at H
                exact absurd H (by simp)
            · rw [if_neg c22] at H
              have c22b0 : decide (x26_2 < (l1.length : Int)) = false := decide_eq_false c22
              clear c22
              replace H := Option.bind_eq_some_iff.mp H
              obtain ⟨⟨t182, t185⟩, A270, H⟩ := H
              replace H : (some (t182, t185)) = some (r1, r2) := H
              have A27 := Aside0.mk A270
              clear A270
              simp only [Option.some.injEq, Prod.mk.injEq] at H
              obtain ⟨rfl, rfl⟩ := H
              have hnb28 := NB175_176.out
              have hnc28 := NB176_175.out
              have hcz29_0 : wr.cell? ⟨gb175, 0, none⟩ = some (.slice A1 l1.length c1) := (blk_cell BK175.out 0).trans rfl
              have hfz29_0 := blk_frozen BK175.out 0
              have hcz30_0 : wr.cell? ⟨gb176, 0, none⟩ = some (.int .i64 a2) := (blk_cell BK176.out 0).trans rfl
              have hfz30_0 := blk_frozen BK176.out 0
              go_wp2_with (first | ((with_reducible refine gate_callee (f := 31) rfl ?_); refine goesL_ (some 38) rfl rfl Try.func31 (by kernel_rfl) rfl #[.slice A1 l1.length c1, .agg #[.int .i64 0, .int .i64 0, .int .i64 0, .int .i64 a0], .func (.func 32) #[] #[.pointer (some ⟨gb175, 0, none⟩), .pointer (some ⟨gb176, 0, none⟩)]] rfl (by (try simp only [List.map_toArray, List.map_cons, List.map_nil]); first | done | rfl | (simp only [List.length_drop, List.length_take]; rfl)) ?_; (with_reducible refine (table_scan_int64_table_Row__table_Roll_1.calls k2 _ _ l1 0 0 0 a0 gb175 A1 c1 l1 gb176 a2 t182 t185 _ ?side1 ?side2 ?side3 ?side4 ?side5 ?side6 A27.out).mono ?_); (case side1 => repeat (first | exact (Kd.C_below HR1.out HB.out) | (with_reducible refine Kd.C_alloc ?_ _) | (with_reducible refine Kd.C_drewN ?_ _) | (with_reducible refine Kd.C_drew ?_))); (case side2 => exact HC1.out); (case side3 => (with_reducible repeat (first | refine blk_drewN ?_ _ | refine blk_drew ?_ | refine blk_alloc ?_ _)); exact BK175.out); (case side4 => repeat (first | exact (Kd.C_below HR1.out HB.out) | (with_reducible refine Kd.C_alloc ?_ _) | (with_reducible refine Kd.C_drewN ?_ _) | (with_reducible refine Kd.C_drew ?_))); (case side5 => exact HC1.out); (case side6 => (with_reducible repeat (first | refine blk_drewN ?_ _ | refine blk_drew ?_ | refine blk_alloc ?_ _)); exact BK176.out); rintro e w31 ⟨v183, rfl, ho0, hb⟩; refine ⟨_, rfl, ?_⟩; have n0_ := Aside0.mk (Kd.R_lower ho0 (below_size (by repeat (first | (with_reducible first | exact HB.out | apply below_alloc | apply pw_below_drewN | apply below_drew1 | refine below_set ?_ GE175.out | refine below_set ?_ GE176.out) | exact HB.out)))); have n1_ := Aside0.mk (blk_below (g := gb175) (o := .cells #[.slice A1 l1.length c1] 22 (0, 0)) (by (with_reducible repeat (first | refine blk_drewN ?_ _ | refine blk_drew ?_ | refine blk_alloc ?_ _)); exact BK175.out) hb); have n2_ := Aside0.mk (blk_below (g := gb176) (o := .cells #[.int .i64 a2] 2 (0, 0)) (by (with_reducible repeat (first | refine blk_drewN ?_ _ | refine blk_drew ?_ | refine blk_alloc ?_ _)); exact BK176.out) hb); have n3_ := Aside0.mk (below_step (by repeat (first | (with_reducible first | exact HB.out | apply below_alloc | apply pw_below_drewN | apply below_drew1 | refine below_set ?_ GE175.out | refine below_set ?_ GE176.out) | exact HB.out)) hb); clear BK175; clear BK176; clear HB; have HO184 := n0_; have BK175 := n1_; have BK176 := n2_; have HB := n3_; clear n0_ n1_ n2_ n3_; (try clear hb); (try clear hb2); (try clear hk); (try clear hi); (try clear ho0)))
              go_ret2
              exact ⟨_, by first | rfl | (simp [errW_none, errW_some] <;> rfl) | (simp [*, errW_none, errW_some] <;> rfl), by (with_reducible repeat (first | apply Kd.R_alloc | apply Kd.R_drewN | apply Kd.R_drew)); exact HO184.out, by repeat (first | (with_reducible first | exact HB.out | apply below_alloc | apply pw_below_drewN | apply below_drew1 | refine below_set ?_ GE175.out | refine below_set ?_ GE176.out) | exact HB.out)⟩

end Go.Proofs.Ytalnlphinlfenaa.S
end

section
namespace Go.Proofs.Ytalnlphinlfenaa.S
open Go.RowKit Go.Proofs.YtalnlphinlfenaaW.PrintWords Go.Proofs.YtalnlphinlfenaaW.PrintLast Go.Proofs.YtalnlphinlfenaaW.PrintMore
attribute [local go_sem] max2_int min2_int max_two min_two max_three min_three max_four min_four   -- for this text's walks alone
attribute [local go_sem] Go.Proofs.Ytalnlphinlfenaa.XWalk.cell2
set_option linter.unusedVariables false
set_option linter.unusedSimpArgs false

theorem eqA59 (d : Nat) (w : World) (x0 y0 : Int) (x1 y1 : Int) (x2 y2 : Int) (x3 y3 : Int) :
    (Op.equalIn (d + 2) 59 (.agg #[.int .i64 x0, .int .i64 x1, .int .i64 x2, .int .i64 x3]) (.agg #[.int .i64 y0, .int .i64 y1, .int .i64 y2, .int .i64 y3])).run Try.prog w = .ok (x0 == y0 && (x1 == y1 && (x2 == y2 && (x3 == y3)))) w := by
  refine eqA_of Try.underlying59 (by kernel_rfl) ?_
  refine eqf_cons (by rfl) (by go_simp; rfl) (by go_simp; rfl) (by go_simp) ?_
  refine eqf_cons (by rfl) (by go_simp; rfl) (by go_simp; rfl) (by go_simp) ?_
  refine eqf_cons (by rfl) (by go_simp; rfl) (by go_simp; rfl) (by go_simp) ?_
  exact eqf_last (by rfl) (by go_simp; rfl) (by go_simp; rfl) (by go_simp)
end Go.Proofs.Ytalnlphinlfenaa.S
end

section
namespace Go.Proofs.Ytalnlphinlfenaa.S
open Go.RowKit Go.Proofs.YtalnlphinlfenaaW.PrintWords Go.Proofs.YtalnlphinlfenaaW.PrintLast Go.Proofs.YtalnlphinlfenaaW.PrintMore
attribute [local go_sem] max2_int min2_int max_two min_two max_three min_three max_four min_four   -- for this text's walks alone
attribute [local go_sem] Go.Proofs.Ytalnlphinlfenaa.XWalk.cell2
set_option linter.unusedVariables false
set_option linter.unusedSimpArgs false

attribute [local go_sem high] eqA59
/-! ### lombardref11_Same: function 14 -/
def lombardref11_Same.l0 : Nat → List (S59) → List (S59) → Int → Int → Option (Bool)
  | 0, _, _, _, _ => none
  | k + 1, x0, x1, x12, x13 => if x13 < x12 then (if 0 ≤ x13 then (if x13 < (x0.length : Int) then (if x13 < (x1.length : Int) then (if (!(((rd_T59 x0 x13).f0) == ((rd_T59 x1 x13).f0)) || (!(((rd_T59 x0 x13).f1) == ((rd_T59 x1 x13).f1)) || (!(((rd_T59 x0 x13).f2) == ((rd_T59 x1 x13).f2)) || (!(((rd_T59 x0 x13).f3) == ((rd_T59 x1 x13).f3)))))) = true then (some false) else (lombardref11_Same.l0 k x0 x1 x12 (wrap64 (x13 + 1)))) else (none)) else (none)) else (none)) else (some true)
def lombardref11_Same.f (k : Nat) (l0 : List (S59)) (l1 : List (S59)) : Option (Bool) := if (l0.length : Int) = (l1.length : Int) then (lombardref11_Same.l0 k l0 l1 (l0.length : Int) 0) else (some false)
theorem lombardref11_Same.mono_l : ∀ k, (∀ y0 y1 y2 y3, LeO (lombardref11_Same.l0 k y0 y1 y2 y3) (lombardref11_Same.l0 (k + 1) y0 y1 y2 y3))
  | 0 => fun _ _ _ _ r h => by simp [lombardref11_Same.l0] at h
  | k + 1 => by
    have ih0 := lombardref11_Same.mono_l k
    · intro y0 y1 y2 y3
      unfold lombardref11_Same.l0
      repeat' first
      | (with_reducible exact ih0 _ _ _ _)
      | (with_reducible exact LeO.refl _)
      | (with_reducible exact LeO.none _)
      | (with_reducible refine LeO.ite ?_ ?_)
      | (with_reducible refine LeO.bind ?_ (fun _ => ?_))
      | exact ih0 _ _ _ _
      | exact LeO.none _
      | refine LeO.ite ?_ ?_
      | refine LeO.bind ?_ (fun _ => ?_)
theorem lombardref11_Same.mono : ∀ a0 a1 k, LeO (lombardref11_Same.f k a0 a1) (lombardref11_Same.f (k + 1) a0 a1) := by
  intro a0 a1 k
  have ih0 := lombardref11_Same.mono_l k
  unfold lombardref11_Same.f
  repeat' first
      | (with_reducible exact ih0 _ _ _ _)
      | (with_reducible exact LeO.refl _)
      | (with_reducible exact LeO.none _)
      | (with_reducible refine LeO.ite ?_ ?_)
      | (with_reducible refine LeO.bind ?_ (fun _ => ?_))
      | exact ih0 _ _ _ _
      | exact LeO.none _
      | refine LeO.ite ?_ ?_
      | refine LeO.bind ?_ (fun _ => ?_)
set_option maxHeartbeats 8000000 in
set_option maxRecDepth 100000 in
theorem lombardref11_Same.calls (k : Nat) (A0 : Option Addr) (c0 : Nat) (l0 : List (S59)) (A1 : Option Addr) (c1 : Nat) (l1 : List (S59)) (r : Bool) (w : World) (hr0 : Kd.C k59 w A0 l0.length l0) (hc0 : l0.length ≤ c0) (hr1 : Kd.C k59 w A1 l1.length l1) (hc1 : l1.length ≤ c1) (h : lombardref11_Same.f k l0 l1 = some r) :
    Calls Try.prog 14 #[.slice A0 l0.length c0, .slice A1 l1.length c1] w fun e w' => e = .returned (.bool r) ∧ Drawn0 w w' := by
  have hu59 := Try.underlying59
  have HR0 := Aside0.mk hr0
  have HC0 := Aside0.mk hc0
  clear hr0 hc0
  have HR1 := Aside0.mk hr1
  have HC1 := Aside0.mk hc1
  clear hr1 hc1
  have H : (if (l0.length : Int) = (l1.length : Int) then (lombardref11_Same.l0 k l0 l1 (l0.length : Int) 0) else (some false)) = some r := h
  clear h
  by_cases c3 : (l0.length : Int) = (l1.length : Int)
  · rw [if_pos c3] at H
    have c3b0 : ((l0.length : Int) == (l1.length : Int)) = true := beq_iff_eq.mpr c3
    have c3b1 : ((l0.length : Int) != (l1.length : Int)) = false := bne_eq_false_iff_eq.mpr c3
    have c3b2 : (l0.length == l1.length) = true := by first | simpa using c3 | (simp at c3 ⊢; omega)
    clear c3
    have H' := Aside0.mk H
    clear H
    go_enter Try.func14, Try.ntmps14
    go_wp2
    repeat (go_quiet (fail); try go_wp2)
    go_loopg [13] k (fun kq v13 w' => ∃ (x13_1 : Int), v13 = .int .i64 x13_1 ∧ Aside0 (lombardref11_Same.l0 kq l0 l1 (l0.length : Int) x13_1 = some r) ∧ Aside0 (kq ≤ k) ∧ Drawn0 w w')
    case atStart => exact ⟨(0), (by first | rfl | (simp; done) | (simp [*]; done)), H', ⟨Nat.le_refl _⟩, by repeat (first | exact Drawn0.refl _ | apply Drawn0.step)⟩
    case round =>
      clear H'
      try clear c1
      try clear p2
      try clear c3
      try clear c3b0
      try clear c3b1
      try clear c3b2
      obtain ⟨x13_1, rfl, HA, HK1, ⟨m1, rfl⟩⟩ := hrel
      cases gk with
      | zero => exact absurd HA.out (by simp [lombardref11_Same.l0])
      | succ k1 =>
        have H := HA.out
        clear HA
        simp only [lombardref11_Same.l0] at H
        by_cases c4 : x13_1 < (l0.length : Int)
        · rw [if_pos c4] at H
          have c4b0 : decide (x13_1 < (l0.length : Int)) = true := decide_eq_true c4
          clear c4
          by_cases c5 : 0 ≤ x13_1
          · rw [if_pos c5] at H
            have c5b0 : decide (0 ≤ x13_1) = true := decide_eq_true c5
            clear c5
            by_cases c6 : x13_1 < (l0.length : Int)
            · rw [if_pos c6] at H
              have c6b0 : decide (x13_1 < (l0.length : Int)) = true := decide_eq_true c6
              clear c6
              by_cases c7 : x13_1 < (l1.length : Int)
              · rw [if_pos c7] at H
                have c7b0 : decide (x13_1 < (l1.length : Int)) = true := decide_eq_true c7
                clear c7
                by_cases c8 : (!(((rd_T59 l0 x13_1).f0) == ((rd_T59 l1 x13_1).f0)) || (!(((rd_T59 l0 x13_1).f1) == ((rd_T59 l1 x13_1).f1)) || (!(((rd_T59 l0 x13_1).f2) == ((rd_T59 l1 x13_1).f2)) || (!(((rd_T59 l0 x13_1).f3) == ((rd_T59 l1 x13_1).f3)))))) = true
                · rw [if_pos c8] at H
                  have c8b0 : (!(((rd_T59 l0 x13_1).f0) == ((rd_T59 l1 x13_1).f0)) || (!(((rd_T59 l0 x13_1).f1) == ((rd_T59 l1 x13_1).f1)) || (!(((rd_T59 l0 x13_1).f2) == ((rd_T59 l1 x13_1).f2)) || (!(((rd_T59 l0 x13_1).f3) == ((rd_T59 l1 x13_1).f3)))))) = true := c8
                  clear c8
                  obtain rfl := Option.some.inj H
                  have p186 : 0 ≤ (x13_1 : Int) := of_decide_eq_true (by first | (with_reducible assumption) | assumption)
                  have q186 : x13_1 < (l0.length : Int) := of_decide_eq_true (by first | (with_reducible assumption) | assumption)
                  obtain ⟨ad186, e186, hx186_0, hx186_1, hx186_2, hx186_3⟩ := at_T59 HR0.out x13_1 p186 q186
                  cases e186
                  replace p186 := eq_true p186
                  replace q186 := eq_true q186
                  have p187 : 0 ≤ (x13_1 : Int) := of_decide_eq_true (by first | (with_reducible assumption) | assumption)
                  have q187 : x13_1 < (l1.length : Int) := of_decide_eq_true (by first | (with_reducible assumption) | assumption)
                  obtain ⟨ad187, e187, hx187_0, hx187_1, hx187_2, hx187_3⟩ := at_T59 HR1.out x13_1 p187 q187
                  cases e187
                  replace p187 := eq_true p187
                  replace q187 := eq_true q187
                  go_wp2
                  repeat (go_quiet (fail); try go_wp2)
                  go_ret
                  exact ⟨by first | rfl | (simp; done) | (simp [*]; done), by repeat (first | exact Drawn0.refl _ | apply Drawn0.step)⟩
                · rw [if_neg c8] at H
                  have c8b0 : (!(((rd_T59 l0 x13_1).f0) == ((rd_T59 l1 x13_1).f0)) || (!(((rd_T59 l0 x13_1).f1) == ((rd_T59 l1 x13_1).f1)) || (!(((rd_T59 l0 x13_1).f2) == ((rd_T59 l1 x13_1).f2)) || (!(((rd_T59 l0 x13_1).f3) == ((rd_T59 l1 x13_1).f3)))))) = false := by simpa using c8
                  clear c8
                  have H' := Aside0.mk H
                  clear H
                  have p186 : 0 ≤ (x13_1 : Int) := of_decide_eq_true (by first | (with_reducible assumption) | assumption)
                  have q186 : x13_1 < (l0.length : Int) := of_decide_eq_true (by first | (with_reducible assumption) | assumption)
                  obtain ⟨ad186, e186, hx186_0, hx186_1, hx186_2, hx186_3⟩ := at_T59 HR0.out x13_1 p186 q186
                  cases e186
                  replace p186 := eq_true p186
                  replace q186 := eq_true q186
                  have p187 : 0 ≤ (x13_1 : Int) := of_decide_eq_true (by first | (with_reducible assumption) | assumption)
                  have q187 : x13_1 < (l1.length : Int) := of_decide_eq_true (by first | (with_reducible assumption) | assumption)
                  obtain ⟨ad187, e187, hx187_0, hx187_1, hx187_2, hx187_3⟩ := at_T59 HR1.out x13_1 p187 q187
                  cases e187
                  replace p187 := eq_true p187
                  replace q187 := eq_true q187
                  go_wp2
                  repeat (go_quiet (fail); try go_wp2)
                  go_roundg k1
                  case measure => have := HK1.out; omega
                  case rel => exact ⟨(wrap64 (x13_1 + 1)), (by first | rfl | (simp; done) | (simp [*]; done)), H', ⟨by have := HK1.out; omega⟩, by repeat (first | exact Drawn0.refl _ | apply Drawn0.step)⟩
              · rw [if_neg c7] at H
                exact absurd H (by simp)
            · rw [if_neg c6] at H
              exact absurd H (by simp)
          · rw [if_neg c5] at H
            exact absurd H (by simp)
        · rw [if_neg c4] at H
          have c4b0 : decide (x13_1 < (l0.length : Int)) = false := decide_eq_false c4
          clear c4
          obtain rfl := Option.some.inj H
          go_wp2
          repeat (go_quiet (fail); try go_wp2)
          go_ret
          exact ⟨by first | rfl | (simp; done) | (simp [*]; done), by repeat (first | exact Drawn0.refl _ | apply Drawn0.step)⟩
  · rw [if_neg c3] at H
    have c3b0 : ((l0.length : Int) == (l1.length : Int)) = false := beq_eq_false_iff_ne.mpr c3
    have c3b1 : ((l0.length : Int) != (l1.length : Int)) = true := bne_iff_ne.mpr c3
    have c3b2 : (l0.length == l1.length) = false := by first | simpa using c3 | (simp at c3 ⊢; omega)
    obtain rfl := Option.some.inj H
    go_enter Try.func14, Try.ntmps14
    go_wp2
    repeat (go_quiet (fail); try go_wp2)
    go_ret
    exact ⟨by first | rfl | (simp; done) | (simp [*]; done), by repeat (first | exact Drawn0.refl _ | apply Drawn0.step)⟩

end Go.Proofs.Ytalnlphinlfenaa.S
end

section
namespace Go.Proofs.Ytalnlphinlfenaa.S
open Go.RowKit Go.Proofs.YtalnlphinlfenaaW.PrintWords Go.Proofs.YtalnlphinlfenaaW.PrintLast Go.Proofs.YtalnlphinlfenaaW.PrintMore
attribute [local go_sem] max2_int min2_int max_two min_two max_three min_three max_four min_four   -- for this text's walks alone
attribute [local go_sem] Go.Proofs.Ytalnlphinlfenaa.XWalk.cell2
set_option linter.unusedVariables false
set_option linter.unusedSimpArgs false

/-! ### lombardlaw11_from: function 15 -/
def lombardlaw11_from.l0 : Nat → List (S59) → List (S37) → Int → Int → Option ((List (S59)))
  | 0, _, _, _, _ => none
  | k + 1, x3, x6, x7, x8 => if x8 < x7 then (if 0 ≤ x8 then (if x8 < (x6.length : Int) then (if x3.length < 4398046511104 then (lombardlaw11_from.l0 k (x3 ++ [(⟨(rd_T37 x6 x8).f0, (rd_T37 x6 x8).f1, (rd_T37 x6 x8).f2, (rd_T37 x6 x8).f3⟩ : S59)]) x6 x7 (wrap64 (x8 + 1))) else (none)) else (none)) else (none)) else (some x3)
def lombardlaw11_from.f (k : Nat) (l0 : List (S37)) : Option ((List (S59))) := lombardlaw11_from.l0 k ([] : List (S59)) l0 (l0.length : Int) 0
theorem lombardlaw11_from.mono_l : ∀ k, (∀ y0 y1 y2 y3, LeO (lombardlaw11_from.l0 k y0 y1 y2 y3) (lombardlaw11_from.l0 (k + 1) y0 y1 y2 y3))
  | 0 => fun _ _ _ _ r h => by simp [lombardlaw11_from.l0] at h
  | k + 1 => by
    have ih0 := lombardlaw11_from.mono_l k
    · intro y0 y1 y2 y3
      unfold lombardlaw11_from.l0
      repeat' first
      | (with_reducible exact ih0 _ _ _ _)
      | (with_reducible exact LeO.refl _)
      | (with_reducible exact LeO.none _)
      | (with_reducible refine LeO.ite ?_ ?_)
      | (with_reducible refine LeO.bind ?_ (fun _ => ?_))
      | exact ih0 _ _ _ _
      | exact LeO.none _
      | refine LeO.ite ?_ ?_
      | refine LeO.bind ?_ (fun _ => ?_)
theorem lombardlaw11_from.mono : ∀ a0 k, LeO (lombardlaw11_from.f k a0) (lombardlaw11_from.f (k + 1) a0) := by
  intro a0 k
  have ih0 := lombardlaw11_from.mono_l k
  unfold lombardlaw11_from.f
  repeat' first
      | (with_reducible exact ih0 _ _ _ _)
      | (with_reducible exact LeO.refl _)
      | (with_reducible exact LeO.none _)
      | (with_reducible refine LeO.ite ?_ ?_)
      | (with_reducible refine LeO.bind ?_ (fun _ => ?_))
      | exact ih0 _ _ _ _
      | exact LeO.none _
      | refine LeO.ite ?_ ?_
      | refine LeO.bind ?_ (fun _ => ?_)
set_option maxHeartbeats 8000000 in
set_option maxRecDepth 100000 in
theorem lombardlaw11_from.calls (k : Nat) (A0 : Option Addr) (c0 : Nat) (l0 : List (S37)) (r : List (S59)) (w : World) (hr0 : Kd.C k37 w A0 l0.length l0) (hc0 : l0.length ≤ c0) (h : lombardlaw11_from.f k l0 = some r) :
    Calls Try.prog 15 #[.slice A0 l0.length c0] w fun e w' => ∃ v0_ : Value, e = .returned (v0_) ∧ Kd.R k59 59 w' w.heap.size (fun _ => True) v0_ r ∧ Below w.heap.size w w' := by
  have hu37 := Try.underlying37
  have HR0 := Aside0.mk hr0
  have HC0 := Aside0.mk hc0
  clear hr0 hc0
  have HB := Aside0.mk (Below.refl w.heap.size w)
  have H : (lombardlaw11_from.l0 k ([] : List (S59)) l0 (l0.length : Int) 0) = some r := h
  clear h
  have H' := Aside0.mk H
  clear H
  go_enter Try.func15, Try.ntmps15
  go_wp2
  go_loopg [3, 8] k (fun kq v3 v8 w' => ∃ (x3_1 : List (S59)) (x8_1 : Int), v8 = .int .i64 x8_1 ∧ Aside0 (lombardlaw11_from.l0 kq x3_1 l0 (l0.length : Int) x8_1 = some r) ∧ Aside0 (kq ≤ k) ∧ Aside0 (Kd.R k59 59 w' w.heap.size (fun _ => True) v3 x3_1) ∧ Aside0 (Below w.heap.size w w'))
  case atStart => exact ⟨(([] : List (S59))), (0), (by first | rfl | (simp; done) | (simp [*]; done)), H', ⟨Nat.le_refl _⟩, ⟨by first | exact Kd.R_nil _ _ _ _ _ | exact Kd.N_nil _ _ _ _ _ | exact Kd.V_nil _ _ _ _ _ | exact Kd.Q_nil _ _ _ _ _ | exact Kd.S_nil _ _ _ _ _⟩, ⟨by repeat (first | (with_reducible first | exact HB.out | apply below_alloc | apply pw_below_drewN | apply below_drew1) | exact HB.out)⟩⟩
  case round =>
    clear H'
    try clear c1
    obtain ⟨x3_1, x8_1, rfl, HA, HK1, HO_3, HB⟩ := hrel
    cases gk with
    | zero => exact absurd HA.out (by simp [lombardlaw11_from.l0])
    | succ k1 =>
      have H := HA.out
      clear HA
      simp only [lombardlaw11_from.l0] at H
      by_cases c2 : x8_1 < (l0.length : Int)
      · rw [if_pos c2] at H
        have c2b0 : decide (x8_1 < (l0.length : Int)) = true := decide_eq_true c2
        clear c2
        by_cases c3 : 0 ≤ x8_1
        · rw [if_pos c3] at H
          have c3b0 : decide (0 ≤ x8_1) = true := decide_eq_true c3
          clear c3
          by_cases c4 : x8_1 < (l0.length : Int)
          · rw [if_pos c4] at H
            have c4b0 : decide (x8_1 < (l0.length : Int)) = true := decide_eq_true c4
            clear c4
            by_cases c5 : x3_1.length < 4398046511104
            · rw [if_pos c5] at H
              have LMc5 := Aside0.mk c5
              clear c5
              obtain ⟨y190, hy190⟩ : ∃ y_ : List (S59), y_ = (x3_1 ++ [(⟨(rd_T37 l0 x8_1).f0, (rd_T37 l0 x8_1).f1, (rd_T37 l0 x8_1).f2, (rd_T37 l0 x8_1).f3⟩ : S59)]) := ⟨_, rfl⟩
              replace H : (lombardlaw11_from.l0 k1 y190 l0 (l0.length : Int) (wrap64 (x8_1 + 1))) = some r := by first | (rw [hy190]; with_reducible exact H) | (have H2_ := (Option.bind_some _ _).symm.trans H; rw [hy190]; with_reducible exact H2_) | (have H2_ := (Option.bind_some _ _).symm.trans H; with_reducible exact H2_) | with_reducible exact H | (rw [hy190]; exact H) | exact H
              have Ny190 := Aside0.mk hy190
              clear hy190
              have H' := Aside0.mk H
              clear H
              have p188 : 0 ≤ (x8_1 : Int) := of_decide_eq_true (by first | (with_reducible assumption) | assumption)
              have q188 : x8_1 < (l0.length : Int) := of_decide_eq_true (by first | (with_reducible assumption) | assumption)
              obtain ⟨ad188, e188, hx188_0, hx188_1, hx188_2, hx188_3⟩ := at_T37 HR0.out x8_1 p188 q188
              cases e188
              try replace hx188_0 := (HB.out.cell (World.block_lt_of_cell? w _ hx188_0)).trans hx188_0
              try replace hx188_1 := (HB.out.cell (World.block_lt_of_cell? w _ hx188_1)).trans hx188_1
              try replace hx188_2 := (HB.out.cell (World.block_lt_of_cell? w _ hx188_2)).trans hx188_2
              try replace hx188_3 := (HB.out.cell (World.block_lt_of_cell? w _ hx188_3)).trans hx188_3
              replace p188 := eq_true p188
              replace q188 := eq_true q188
              go_wp2_with (first | ((with_reducible refine gate_dst (N := 5) rfl ?_); refine box_event ?hg (N := 5) ?hd (cs := #[.int .i64 0, .int .i64 0, .int .i64 0, .int .i64 0]) (t := 37) ?hr ?_; (case hd => rfl); (case hg => rfl); (case hr => first | (go_simp; done) | (go_simp; rfl)); intro gb189 hg w6 hbox hb; have n0_ := Aside0.mk (Kd.R_below (by (with_reducible repeat (first | apply Kd.R_alloc | apply Kd.R_drewN | apply Kd.R_drew)); exact HO_3.out) hb); have n1_ := Aside0.mk (below_step (by repeat (first | (with_reducible first | exact HB.out | apply below_alloc | apply pw_below_drewN | apply below_drew1) | exact HB.out)) hb); have n2_ := Aside0.mk (hbox); have n3_ := Aside0.mk ((by rw [hg]; exact (below_size (by repeat (first | (with_reducible first | exact HB.out | apply below_alloc | apply pw_below_drewN | apply below_drew1) | exact HB.out))) : w.heap.size ≤ gb189)); have n4_ := Aside0.mk ((by rw [hg]; exact (below_size (by repeat (first | (with_reducible first | exact HB.out | apply below_alloc | apply pw_below_drewN | apply below_drew1) | exact HB.out))) : w.heap.size ≤ gb189)); clear HO_3; clear HB; have HO_3 := n0_; have HB := n1_; have BK189 := n2_; have GW189 := n3_; have GE189 := n4_; clear n0_ n1_ n2_ n3_ n4_; clear hb hbox hg; have hcz7_0 : w6.cell? ⟨gb189, 0, none⟩ = some (.int .i64 0) := (blk_cell BK189.out 0).trans rfl; have hcz7_1 : w6.cell? ⟨gb189, 1, none⟩ = some (.int .i64 0) := (blk_cell BK189.out 1).trans rfl; have hcz7_2 : w6.cell? ⟨gb189, 2, none⟩ = some (.int .i64 0) := (blk_cell BK189.out 2).trans rfl; have hcz7_3 : w6.cell? ⟨gb189, 3, none⟩ = some (.int .i64 0) := (blk_cell BK189.out 3).trans rfl; have hfz7_0 := blk_frozen BK189.out 0; have hfz7_1 := blk_frozen BK189.out 1; have hfz7_2 := blk_frozen BK189.out 2; have hfz7_3 := blk_frozen BK189.out 3) | ((with_reducible refine gate_builtin (b := .append) (xs := #[.tmp 12, .tmp 14]) rfl ?_); at_builtin; refine Kd.R_append k59 (w0 := w) w.heap.size rfl (.tmp 12) (.tmp 14) 28 59 (.agg #[(.int .i64 0), (.int .i64 0), (.int .i64 0), (.int .i64 0)]) 32 rfl Try.underlying28 info59 rfl (by decide) (by omega) u3 x3_1 (⟨(rd_T37 l0 x8_1).f0, (rd_T37 l0 x8_1).f1, (rd_T37 l0 x8_1).f2, (rd_T37 l0 x8_1).f3⟩ : S59) [.int .i64 ((rd_T37 l0 x8_1).f0), .int .i64 ((rd_T37 l0 x8_1).f1), .int .i64 ((rd_T37 l0 x8_1).f2), .int .i64 ((rd_T37 l0 x8_1).f3)] (fun _ => True) (fun _ => False) rfl (by first | (go_simp; done) | (go_simp; rfl)) ?aP (fun _ hk => hk.elim) ?aF ?aO ?aB ?aS ?aL ?_; (case aP => exact k59_mkM _ _ _ (⟨(rd_T37 l0 x8_1).f0, (rd_T37 l0 x8_1).f1, (rd_T37 l0 x8_1).f2, (rd_T37 l0 x8_1).f3⟩ : S59)); (case aB => exact (by repeat (first | (with_reducible first | exact HB.out | apply below_alloc | apply pw_below_drewN | apply below_drew1 | refine below_set ?_ GE189.out) | exact HB.out))); (case aF => exact (fun _ _ => trivial)); (case aO => exact (by (with_reducible repeat (first | apply Kd.R_alloc | apply Kd.R_drewN | apply Kd.R_drew)); exact Kd.R_mono (Kd.R_far (p := ⟨gb189, 3, none⟩) (Kd.R_far (p := ⟨gb189, 2, none⟩) (Kd.R_far (p := ⟨gb189, 1, none⟩) (Kd.R_far (p := ⟨gb189, 0, none⟩) (Kd.R_types HO_3.out BK189.out (by decide)) (fun _ hk => hk.2) (.int .i64 ((rd_T37 l0 x8_1).f0))) (fun _ hk => hk.2) (.int .i64 ((rd_T37 l0 x8_1).f1))) (fun _ hk => hk.2) (.int .i64 ((rd_T37 l0 x8_1).f2))) (fun _ hk => hk.2) (.int .i64 ((rd_T37 l0 x8_1).f3))) (fun _ hk => trivial))); (case aS => exact (below_size (by repeat (first | (with_reducible first | exact HB.out | apply below_alloc | apply pw_below_drewN | apply below_drew1 | refine below_set ?_ GE189.out) | exact HB.out)))); (case aL => have := LMc5.out; omega); intro v191 w8 ho hb hg hat; rw [← Ny190.out] at ho; have n0_ := Aside0.mk (blk_grown (g := gb189) (o := .cells #[.int .i64 ((rd_T37 l0 x8_1).f0), .int .i64 ((rd_T37 l0 x8_1).f1), .int .i64 ((rd_T37 l0 x8_1).f2), .int .i64 ((rd_T37 l0 x8_1).f3)] 37 (0, 0)) (by (with_reducible repeat (first | refine blk_drewN ?_ _ | refine blk_drew ?_ | refine blk_alloc ?_ _)); refine blk_put (cs := #[.int .i64 ((rd_T37 l0 x8_1).f0), .int .i64 ((rd_T37 l0 x8_1).f1), .int .i64 ((rd_T37 l0 x8_1).f2), .int .i64 0]) ?_ 3 _ rfl; (with_reducible repeat (first | refine blk_drewN ?_ _ | refine blk_drew ?_ | refine blk_alloc ?_ _)); refine blk_put (cs := #[.int .i64 ((rd_T37 l0 x8_1).f0), .int .i64 ((rd_T37 l0 x8_1).f1), .int .i64 0, .int .i64 0]) ?_ 2 _ rfl; (with_reducible repeat (first | refine blk_drewN ?_ _ | refine blk_drew ?_ | refine blk_alloc ?_ _)); refine blk_put (cs := #[.int .i64 ((rd_T37 l0 x8_1).f0), .int .i64 0, .int .i64 0, .int .i64 0]) ?_ 1 _ rfl; (with_reducible repeat (first | refine blk_drewN ?_ _ | refine blk_drew ?_ | refine blk_alloc ?_ _)); refine blk_put (cs := #[.int .i64 0, .int .i64 0, .int .i64 0, .int .i64 0]) ?_ 0 _ rfl; (with_reducible repeat (first | refine blk_drewN ?_ _ | refine blk_drew ?_ | refine blk_alloc ?_ _)); exact BK189.out) hg (Kd.R_ne HO_3.out BK189.out (by decide))); have n1_ := Aside0.mk (hb); have n2_ := Aside0.mk (ho); clear BK189; clear HB; clear HO_3; have BK189 := n0_; have HB := n1_; have HO192 := n2_; clear n0_ n1_ n2_; clear ho hb hg hat))
              go_roundg k1
              case measure => have := HK1.out; omega
              case rel => exact ⟨(y190), (wrap64 (x8_1 + 1)), (by first | rfl | (simp; done) | (simp [*]; done)), H', ⟨by have := HK1.out; omega⟩, ⟨by (with_reducible repeat (first | apply Kd.R_alloc | apply Kd.R_drewN | apply Kd.R_drew)); exact HO192.out⟩, ⟨by repeat (first | (with_reducible first | exact HB.out | apply below_alloc | apply pw_below_drewN | apply below_drew1 | refine below_set ?_ GE189.out) | exact HB.out)⟩⟩
            · rw [if_neg c5] at H
              exact absurd H (by simp)
          · rw [if_neg c4] at H
            exact absurd H (by simp)
        · rw [if_neg c3] at H
          exact absurd H (by simp)
      · rw [if_neg c2] at H
        have c2b0 : decide (x8_1 < (l0.length : Int)) = false := decide_eq_false c2
        clear c2
        obtain rfl := Option.some.inj H
        go_wp2
        go_ret
        exact ⟨_, by first | rfl | (simp [errW_none, errW_some] <;> rfl) | (simp [*, errW_none, errW_some] <;> rfl), by (with_reducible repeat (first | apply Kd.R_alloc | apply Kd.R_drewN | apply Kd.R_drew)); exact HO_3.out, by repeat (first | (with_reducible first | exact HB.out | apply below_alloc | apply pw_below_drewN | apply below_drew1) | exact HB.out)⟩

end Go.Proofs.Ytalnlphinlfenaa.S
end

section
namespace Go.Proofs.Ytalnlphinlfenaa.S
open Go.RowKit Go.Proofs.YtalnlphinlfenaaW.PrintWords Go.Proofs.YtalnlphinlfenaaW.PrintLast Go.Proofs.YtalnlphinlfenaaW.PrintMore
attribute [local go_sem] max2_int min2_int max_two min_two max_three min_three max_four min_four   -- for this text's walks alone
attribute [local go_sem] Go.Proofs.Ytalnlphinlfenaa.XWalk.cell2
set_option linter.unusedVariables false
set_option linter.unusedSimpArgs false

/-! ### table_Plug: function 25 -/
def table_Plug.f (k : Nat) (l0 : List (S37)) (a1 : Int) : Option (Int × Int) := if (l0.length : Int) = 0 then (some (0, 8)) else ((rate_May.f a1).bind fun t193 => (if t193 = true then (if 0 ≤ (wrap64 ((l0.length : Int) - 1)) then (if (wrap64 ((l0.length : Int) - 1)) < (l0.length : Int) then ((rate_Interest.f k ((rd_T37 l0 (wrap64 ((l0.length : Int) - 1))).f0) a1).bind fun bt196 => (if bt196.2 = 0 then ((money_Sub.f ((rd_T37 l0 (wrap64 ((l0.length : Int) - 1))).f1) bt196.1).bind fun bt198 => (some (bt198.1, bt198.2))) else (some (0, bt196.2)))) else (none)) else (none)) else (some (0, 2))))
theorem table_Plug.mono : ∀ a0 a1 k, LeO (table_Plug.f k a0 a1) (table_Plug.f (k + 1) a0 a1) := by
  intro a0 a1 k
  unfold table_Plug.f
  repeat' first
      | (with_reducible exact rate_Interest.mono _ _ _)
      | (with_reducible exact LeO.refl _)
      | (with_reducible exact LeO.none _)
      | (with_reducible refine LeO.ite ?_ ?_)
      | (with_reducible refine LeO.bind ?_ (fun _ => ?_))
      | exact rate_Interest.mono _ _ _
      | exact LeO.none _
      | refine LeO.ite ?_ ?_
      | refine LeO.bind ?_ (fun _ => ?_)
set_option maxHeartbeats 8000000 in
set_option maxRecDepth 100000 in
theorem table_Plug.calls (k : Nat) (A0 : Option Addr) (c0 : Nat) (l0 : List (S37)) (a1 : Int) (r1 : Int) (r2 : Int) (w : World) (hr0 : Kd.C k37 w A0 l0.length l0) (hc0 : l0.length ≤ c0) (h : table_Plug.f k l0 a1 = some (r1, r2)) :
    Calls Try.prog 25 #[.slice A0 l0.length c0, .int .i64 a1] w fun e w' => e = .returned (.tuple #[.int .i64 r1, .int .i64 r2]) ∧ Below w.heap.size w w' := by
  have hu37 := Try.underlying37
  have HR0 := Aside0.mk hr0
  have HC0 := Aside0.mk hc0
  clear hr0 hc0
  have HB := Aside0.mk (Below.refl w.heap.size w)
  have H : (if (l0.length : Int) = 0 then (some (0, 8)) else ((rate_May.f a1).bind fun t193 => (if t193 = true then (if 0 ≤ (wrap64 ((l0.length : Int) - 1)) then (if (wrap64 ((l0.length : Int) - 1)) < (l0.length : Int) then ((rate_Interest.f k ((rd_T37 l0 (wrap64 ((l0.length : Int) - 1))).f0) a1).bind fun bt196 => (if bt196.2 = 0 then ((money_Sub.f ((rd_T37 l0 (wrap64 ((l0.length : Int) - 1))).f1) bt196.1).bind fun bt198 => (some (bt198.1, bt198.2))) else (some (0, bt196.2)))) else (none)) else (none)) else (some (0, 2))))) = some (r1, r2) := h
  clear h
  by_cases c3 : (l0.length : Int) = 0
  · rw [if_pos c3] at H
    have c3b0 : ((l0.length : Int) == 0) = true := beq_iff_eq.mpr c3
    have c3b1 : ((l0.length : Int) != 0) = false := bne_eq_false_iff_eq.mpr c3
    clear c3
    simp only [Option.some.injEq, Prod.mk.injEq] at H
    obtain ⟨rfl, rfl⟩ := H
    go_enter Try.func25, Try.ntmps25
    go_wp2
    go_ret2
    exact ⟨by first | rfl | (simp [errW_none, errW_some] <;> rfl) | (simp [*, errW_none, errW_some] <;> rfl), by repeat (first | (with_reducible first | exact HB.out | apply below_alloc | apply pw_below_drewN | apply below_drew1) | exact HB.out)⟩
  · rw [if_neg c3] at H
    have c3b0 : ((l0.length : Int) == 0) = false := beq_eq_false_iff_ne.mpr c3
    have c3b1 : ((l0.length : Int) != 0) = true := bne_iff_ne.mpr c3
    have c3b2 : ¬ (l0 = []) := fun h_ => c3 (by rw [h_]; rfl)
    replace H := Option.bind_eq_some_iff.mp H
    obtain ⟨t193, A40, H⟩ := H
    replace H : (if t193 = true then (if 0 ≤ (wrap64 ((l0.length : Int) - 1)) then (if (wrap64 ((l0.length : Int) - 1)) < (l0.length : Int) then ((rate_Interest.f k ((rd_T37 l0 (wrap64 ((l0.length : Int) - 1))).f0) a1).bind fun bt196 => (if bt196.2 = 0 then ((money_Sub.f ((rd_T37 l0 (wrap64 ((l0.length : Int) - 1))).f1) bt196.1).bind fun bt198 => (some (bt198.1, bt198.2))) else (some (0, bt196.2)))) else (none)) else (none)) else (some (0, 2))) = some (r1, r2) := H
    have A4 := Aside0.mk A40
    clear A40
    by_cases c5 : t193 = true
    · subst c5
      have H1 : (if 0 ≤ (wrap64 ((l0.length : Int) - 1)) then (if (wrap64 ((l0.length : Int) - 1)) < (l0.length : Int) then ((rate_Interest.f k ((rd_T37 l0 (wrap64 ((l0.length : Int) - 1))).f0) a1).bind fun bt196 => (if bt196.2 = 0 then ((money_Sub.f ((rd_T37 l0 (wrap64 ((l0.length : Int) - 1))).f1) bt196.1).bind fun bt198 => (some (bt198.1, bt198.2))) else (some (0, bt196.2)))) else (none)) else (none)) = some (r1, r2) := by rw [if_pos rfl] at H; exact H
      clear H
      have H := H1
      clear H1
      obtain ⟨ji6, hji6⟩ : ∃ j_ : Int, (wrap64 ((l0.length : Int) - 1)) = j_ := ⟨_, rfl⟩
      replace H : (if 0 ≤ (ji6) then (if (ji6) < (l0.length : Int) then ((rate_Interest.f k ((rd_T37 l0 (ji6)).f0) a1).bind fun bt196 => (if bt196.2 = 0 then ((money_Sub.f ((rd_T37 l0 (ji6)).f1) bt196.1).bind fun bt198 => (some (bt198.1, bt198.2))) else (some (0, bt196.2)))) else (none)) else (none)) = some (r1, r2) := by first | (rw [hji6] at H; exact H) | (simp only [hji6] at H ⊢; exact H)
      (try rw [hji6] at A4)
      have hji6w : (IntKind.i64.wrap ((l0.length : Int) - 1)) = ji6 := (i64_w _).trans hji6
      by_cases c7 : 0 ≤ (ji6)
      · rw [if_pos c7] at H
        have c7b0 : decide (0 ≤ (ji6)) = true := decide_eq_true c7
        clear c7
        by_cases c8 : (ji6) < (l0.length : Int)
        · rw [if_pos c8] at H
          have c8b0 : decide ((ji6) < (l0.length : Int)) = true := decide_eq_true c8
          clear c8
          replace H := Option.bind_eq_some_iff.mp H
          obtain ⟨⟨t196, t197⟩, A90, H⟩ := H
          replace H : (if t197 = 0 then ((money_Sub.f ((rd_T37 l0 (ji6)).f1) t196).bind fun bt198 => (some (bt198.1, bt198.2))) else (some (0, t197))) = some (r1, r2) := H
          have A9 := Aside0.mk A90
          clear A90
          by_cases c10 : t197 = 0
          · rw [if_pos c10] at H
            have c10b0 : (t197 == 0) = true := beq_iff_eq.mpr c10
            have c10b1 : (t197 != 0) = false := bne_eq_false_iff_eq.mpr c10
            clear c10
            replace H := Option.bind_eq_some_iff.mp H
            obtain ⟨⟨t198, t199⟩, A110, H⟩ := H
            replace H : (some (t198, t199)) = some (r1, r2) := H
            have A11 := Aside0.mk A110
            clear A110
            simp only [Option.some.injEq, Prod.mk.injEq] at H
            obtain ⟨rfl, rfl⟩ := H
            go_enter Try.func25, Try.ntmps25
            go_wp2_with (first | ((with_reducible refine gate_callee (f := 30) rfl ?_); refine goesL_ (some 15) rfl rfl Try.func30 (by kernel_rfl) rfl #[.int .i64 a1] rfl (by (try simp only [List.map_toArray, List.map_cons, List.map_nil]); first | done | rfl | (simp only [List.length_drop, List.length_take]; rfl)) ?_; (with_reducible refine (rate_May.calls a1 true _ A4.out).mono ?_); rintro e w' ⟨rfl, ⟨nd, rfl⟩⟩; refine ⟨_, rfl, ?_⟩; have p194 : 0 ≤ ((ji6) : Int) := of_decide_eq_true (by first | (with_reducible assumption) | assumption); have q194 : (ji6) < (l0.length : Int) := of_decide_eq_true (by first | (with_reducible assumption) | assumption); obtain ⟨ad194, e194, hx194_0, hx194_1, hx194_2, hx194_3⟩ := at_T37 HR0.out (ji6) p194 q194; cases e194; replace p194 := eq_true p194; replace q194 := eq_true q194) | ((with_reducible refine gate_dst (N := 6) rfl ?_); refine box_event ?hg (N := 6) ?hd (cs := #[.int .i64 0, .int .i64 0, .int .i64 0, .int .i64 0]) (t := 37) ?hr ?_; (case hd => rfl); (case hg => rfl); (case hr => first | (go_simp; done) | (go_simp; rfl)); intro gb195 hg w12 hbox hb; have n0_ := Aside0.mk (below_step (by repeat (first | (with_reducible first | exact HB.out | apply below_alloc | apply pw_below_drewN | apply below_drew1) | exact HB.out)) hb); have n1_ := Aside0.mk (hbox); have n2_ := Aside0.mk ((by rw [hg]; exact (below_size (by repeat (first | (with_reducible first | exact HB.out | apply below_alloc | apply pw_below_drewN | apply below_drew1) | exact HB.out))) : w.heap.size ≤ gb195)); have n3_ := Aside0.mk ((by rw [hg]; exact (below_size (by repeat (first | (with_reducible first | exact HB.out | apply below_alloc | apply pw_below_drewN | apply below_drew1) | exact HB.out))) : w.heap.size ≤ gb195)); clear HB; have HB := n0_; have BK195 := n1_; have GW195 := n2_; have GE195 := n3_; clear n0_ n1_ n2_ n3_; clear hb hbox hg; have hcz13_0 : w12.cell? ⟨gb195, 0, none⟩ = some (.int .i64 0) := (blk_cell BK195.out 0).trans rfl; have hcz13_1 : w12.cell? ⟨gb195, 1, none⟩ = some (.int .i64 0) := (blk_cell BK195.out 1).trans rfl; have hcz13_2 : w12.cell? ⟨gb195, 2, none⟩ = some (.int .i64 0) := (blk_cell BK195.out 2).trans rfl; have hcz13_3 : w12.cell? ⟨gb195, 3, none⟩ = some (.int .i64 0) := (blk_cell BK195.out 3).trans rfl; have hfz13_0 := blk_frozen BK195.out 0; have hfz13_1 := blk_frozen BK195.out 1; have hfz13_2 := blk_frozen BK195.out 2; have hfz13_3 := blk_frozen BK195.out 3) | ((with_reducible refine gate_callee (f := 27) rfl ?_); refine goesL_ (some 27) rfl rfl Try.func27 (by kernel_rfl) rfl #[.int .i64 ((rd_T37 l0 (ji6)).f0), .int .i64 a1] rfl (by (try simp only [List.map_toArray, List.map_cons, List.map_nil]); first | done | (simp only [hji6]; rfl) | rfl | (simp only [List.length_drop, List.length_take]; rfl)) ?_; (with_reducible refine (rate_Interest.calls k ((rd_T37 l0 (ji6)).f0) a1 t196 t197 _ A9.out).mono ?_); rintro e w14 ⟨rfl, hb⟩; refine ⟨_, rfl, ?_⟩; have n0_ := Aside0.mk (blk_below (g := gb195) (o := .cells #[.int .i64 ((rd_T37 l0 (ji6)).f0), .int .i64 ((rd_T37 l0 (ji6)).f1), .int .i64 ((rd_T37 l0 (ji6)).f2), .int .i64 ((rd_T37 l0 (ji6)).f3)] 37 (0, 0)) (by (with_reducible repeat (first | refine blk_drewN ?_ _ | refine blk_drew ?_ | refine blk_alloc ?_ _)); refine blk_put (cs := #[.int .i64 ((rd_T37 l0 (ji6)).f0), .int .i64 ((rd_T37 l0 (ji6)).f1), .int .i64 ((rd_T37 l0 (ji6)).f2), .int .i64 0]) ?_ 3 _ rfl; (with_reducible repeat (first | refine blk_drewN ?_ _ | refine blk_drew ?_ | refine blk_alloc ?_ _)); refine blk_put (cs := #[.int .i64 ((rd_T37 l0 (ji6)).f0), .int .i64 ((rd_T37 l0 (ji6)).f1), .int .i64 0, .int .i64 0]) ?_ 2 _ rfl; (with_reducible repeat (first | refine blk_drewN ?_ _ | refine blk_drew ?_ | refine blk_alloc ?_ _)); refine blk_put (cs := #[.int .i64 ((rd_T37 l0 (ji6)).f0), .int .i64 0, .int .i64 0, .int .i64 0]) ?_ 1 _ rfl; (with_reducible repeat (first | refine blk_drewN ?_ _ | refine blk_drew ?_ | refine blk_alloc ?_ _)); refine blk_put (cs := #[.int .i64 0, .int .i64 0, .int .i64 0, .int .i64 0]) ?_ 0 _ rfl; (with_reducible repeat (first | refine blk_drewN ?_ _ | refine blk_drew ?_ | refine blk_alloc ?_ _)); exact BK195.out) hb); have n1_ := Aside0.mk (below_step (by repeat (first | (with_reducible first | exact HB.out | apply below_alloc | apply pw_below_drewN | apply below_drew1 | refine below_set ?_ GE195.out) | exact HB.out)) hb); clear BK195; clear HB; have BK195 := n0_; have HB := n1_; clear n0_ n1_; (try clear hb); (try clear hb2); (try clear hk); (try clear hi); have hcz15_0 : w14.cell? ⟨gb195, 0, none⟩ = some (.int .i64 ((rd_T37 l0 (ji6)).f0)) := (blk_cell BK195.out 0).trans rfl; have hcz15_1 : w14.cell? ⟨gb195, 1, none⟩ = some (.int .i64 ((rd_T37 l0 (ji6)).f1)) := (blk_cell BK195.out 1).trans rfl; have hcz15_2 : w14.cell? ⟨gb195, 2, none⟩ = some (.int .i64 ((rd_T37 l0 (ji6)).f2)) := (blk_cell BK195.out 2).trans rfl; have hcz15_3 : w14.cell? ⟨gb195, 3, none⟩ = some (.int .i64 ((rd_T37 l0 (ji6)).f3)) := (blk_cell BK195.out 3).trans rfl; have hfz15_0 := blk_frozen BK195.out 0; have hfz15_1 := blk_frozen BK195.out 1; have hfz15_2 := blk_frozen BK195.out 2; have hfz15_3 := blk_frozen BK195.out 3) | ((with_reducible refine gate_callee (f := 43) rfl ?_); refine goesL_ (some 36) rfl rfl Try.func43 (by kernel_rfl) rfl #[.int .i64 ((rd_T37 l0 (ji6)).f1), .int .i64 t196] rfl (by (try simp only [List.map_toArray, List.map_cons, List.map_nil]); first | done | (simp only [hji6]; rfl) | rfl | (simp only [List.length_drop, List.length_take]; rfl)) ?_; (with_reducible refine (money_Sub.calls ((rd_T37 l0 (ji6)).f1) t196 t198 t199 _ A11.out).mono ?_); rintro e w' ⟨rfl, ⟨nd, rfl⟩⟩; refine ⟨_, rfl, ?_⟩))
            go_ret2
            exact ⟨by first | rfl | (simp [errW_none, errW_some] <;> rfl) | (simp only [← hji6]; first | rfl | (simp [errW_none, errW_some] <;> rfl)) | (simp [*, errW_none, errW_some] <;> rfl), by repeat (first | (with_reducible first | exact HB.out | apply below_alloc | apply pw_below_drewN | apply below_drew1 | refine below_set ?_ GE195.out) | exact HB.out)⟩
          · rw [if_neg c10] at H
            have c10b0 : (t197 == 0) = false := beq_eq_false_iff_ne.mpr c10
            have c10b1 : (t197 != 0) = true := bne_iff_ne.mpr c10
            simp only [Option.some.injEq, Prod.mk.injEq] at H
            obtain ⟨rfl, rfl⟩ := H
            go_enter Try.func25, Try.ntmps25
            go_wp2_with (first | ((with_reducible refine gate_callee (f := 30) rfl ?_); refine goesL_ (some 15) rfl rfl Try.func30 (by kernel_rfl) rfl #[.int .i64 a1] rfl (by (try simp only [List.map_toArray, List.map_cons, List.map_nil]); first | done | rfl | (simp only [List.length_drop, List.length_take]; rfl)) ?_; (with_reducible refine (rate_May.calls a1 true _ A4.out).mono ?_); rintro e w' ⟨rfl, ⟨nd, rfl⟩⟩; refine ⟨_, rfl, ?_⟩; have p194 : 0 ≤ ((ji6) : Int) := of_decide_eq_true (by first | (with_reducible assumption) | assumption); have q194 : (ji6) < (l0.length : Int) := of_decide_eq_true (by first | (with_reducible assumption) | assumption); obtain ⟨ad194, e194, hx194_0, hx194_1, hx194_2, hx194_3⟩ := at_T37 HR0.out (ji6) p194 q194; cases e194; replace p194 := eq_true p194; replace q194 := eq_true q194) | ((with_reducible refine gate_dst (N := 6) rfl ?_); refine box_event ?hg (N := 6) ?hd (cs := #[.int .i64 0, .int .i64 0, .int .i64 0, .int .i64 0]) (t := 37) ?hr ?_; (case hd => rfl); (case hg => rfl); (case hr => first | (go_simp; done) | (go_simp; rfl)); intro gb195 hg w16 hbox hb; have n0_ := Aside0.mk (below_step (by repeat (first | (with_reducible first | exact HB.out | apply below_alloc | apply pw_below_drewN | apply below_drew1) | exact HB.out)) hb); have n1_ := Aside0.mk (hbox); have n2_ := Aside0.mk ((by rw [hg]; exact (below_size (by repeat (first | (with_reducible first | exact HB.out | apply below_alloc | apply pw_below_drewN | apply below_drew1) | exact HB.out))) : w.heap.size ≤ gb195)); have n3_ := Aside0.mk ((by rw [hg]; exact (below_size (by repeat (first | (with_reducible first | exact HB.out | apply below_alloc | apply pw_below_drewN | apply below_drew1) | exact HB.out))) : w.heap.size ≤ gb195)); clear HB; have HB := n0_; have BK195 := n1_; have GW195 := n2_; have GE195 := n3_; clear n0_ n1_ n2_ n3_; clear hb hbox hg; have hcz17_0 : w16.cell? ⟨gb195, 0, none⟩ = some (.int .i64 0) := (blk_cell BK195.out 0).trans rfl; have hcz17_1 : w16.cell? ⟨gb195, 1, none⟩ = some (.int .i64 0) := (blk_cell BK195.out 1).trans rfl; have hcz17_2 : w16.cell? ⟨gb195, 2, none⟩ = some (.int .i64 0) := (blk_cell BK195.out 2).trans rfl; have hcz17_3 : w16.cell? ⟨gb195, 3, none⟩ = some (.int .i64 0) := (blk_cell BK195.out 3).trans rfl; have hfz17_0 := blk_frozen BK195.out 0; have hfz17_1 := blk_frozen BK195.out 1; have hfz17_2 := blk_frozen BK195.out 2; have hfz17_3 := blk_frozen BK195.out 3) | ((with_reducible refine gate_callee (f := 27) rfl ?_); refine goesL_ (some 27) rfl rfl Try.func27 (by kernel_rfl) rfl #[.int .i64 ((rd_T37 l0 (ji6)).f0), .int .i64 a1] rfl (by (try simp only [List.map_toArray, List.map_cons, List.map_nil]); first | done | (simp only [hji6]; rfl) | rfl | (simp only [List.length_drop, List.length_take]; rfl)) ?_; (with_reducible refine (rate_Interest.calls k ((rd_T37 l0 (ji6)).f0) a1 t196 t197 _ A9.out).mono ?_); rintro e w18 ⟨rfl, hb⟩; refine ⟨_, rfl, ?_⟩; have n0_ := Aside0.mk (blk_below (g := gb195) (o := .cells #[.int .i64 ((rd_T37 l0 (ji6)).f0), .int .i64 ((rd_T37 l0 (ji6)).f1), .int .i64 ((rd_T37 l0 (ji6)).f2), .int .i64 ((rd_T37 l0 (ji6)).f3)] 37 (0, 0)) (by (with_reducible repeat (first | refine blk_drewN ?_ _ | refine blk_drew ?_ | refine blk_alloc ?_ _)); refine blk_put (cs := #[.int .i64 ((rd_T37 l0 (ji6)).f0), .int .i64 ((rd_T37 l0 (ji6)).f1), .int .i64 ((rd_T37 l0 (ji6)).f2), .int .i64 0]) ?_ 3 _ rfl; (with_reducible repeat (first | refine blk_drewN ?_ _ | refine blk_drew ?_ | refine blk_alloc ?_ _)); refine blk_put (cs := #[.int .i64 ((rd_T37 l0 (ji6)).f0), .int .i64 ((rd_T37 l0 (ji6)).f1), .int .i64 0, .int .i64 0]) ?_ 2 _ rfl; (with_reducible repeat (first | refine blk_drewN ?_ _ | refine blk_drew ?_ | refine blk_alloc ?_ _)); refine blk_put (cs := #[.int .i64 ((rd_T37 l0 (ji6)).f0), .int .i64 0, .int .i64 0, .int .i64 0]) ?_ 1 _ rfl; (with_reducible repeat (first | refine blk_drewN ?_ _ | refine blk_drew ?_ | refine blk_alloc ?_ _)); refine blk_put (cs := #[.int .i64 0, .int .i64 0, .int .i64 0, .int .i64 0]) ?_ 0 _ rfl; (with_reducible repeat (first | refine blk_drewN ?_ _ | refine blk_drew ?_ | refine blk_alloc ?_ _)); exact BK195.out) hb); have n1_ := Aside0.mk (below_step (by repeat (first | (with_reducible first | exact HB.out | apply below_alloc | apply pw_below_drewN | apply below_drew1 | refine below_set ?_ GE195.out) | exact HB.out)) hb); clear BK195; clear HB; have BK195 := n0_; have HB := n1_; clear n0_ n1_; (try clear hb); (try clear hb2); (try clear hk); (try clear hi)))
            go_ret2
            exact ⟨by first | rfl | (simp [errW_none, errW_some] <;> rfl) | (simp only [← hji6]; first | rfl | (simp [errW_none, errW_some] <;> rfl)) | (simp [*, errW_none, errW_some] <;> rfl), by repeat (first | (with_reducible first | exact HB.out | apply below_alloc | apply pw_below_drewN | apply below_drew1 | refine below_set ?_ GE195.out) | exact HB.out)⟩
        · rw [if_neg c8] at H
          exact absurd H (by simp)
      · rw [if_neg c7] at H
        exact absurd H (by simp)
    · replace c5 := Bool.eq_false_iff.mpr c5
      subst c5
      have H1 : (some (0, 2)) = some (r1, r2) := by rw [if_neg (show ¬ (false = true) by decide)] at H; exact H
      clear H
      have H := H1
      clear H1
      simp only [Option.some.injEq, Prod.mk.injEq] at H
      obtain ⟨rfl, rfl⟩ := H
      go_enter Try.func25, Try.ntmps25
      go_wp2_with (first | ((with_reducible refine gate_callee (f := 30) rfl ?_); refine goesL_ (some 15) rfl rfl Try.func30 (by kernel_rfl) rfl #[.int .i64 a1] rfl (by (try simp only [List.map_toArray, List.map_cons, List.map_nil]); first | done | rfl | (simp only [List.length_drop, List.length_take]; rfl)) ?_; (with_reducible refine (rate_May.calls a1 false _ A4.out).mono ?_); rintro e w' ⟨rfl, ⟨nd, rfl⟩⟩; refine ⟨_, rfl, ?_⟩))
      go_ret2
      exact ⟨by first | rfl | (simp [errW_none, errW_some] <;> rfl) | (simp [*, errW_none, errW_some] <;> rfl), by repeat (first | (with_reducible first | exact HB.out | apply below_alloc | apply pw_below_drewN | apply below_drew1) | exact HB.out)⟩

end Go.Proofs.Ytalnlphinlfenaa.S
end

section
namespace Go.Proofs.Ytalnlphinlfenaa.S
open Go.RowKit Go.Proofs.YtalnlphinlfenaaW.PrintWords Go.Proofs.YtalnlphinlfenaaW.PrintLast Go.Proofs.YtalnlphinlfenaaW.PrintMore
attribute [local go_sem] max2_int min2_int max_two min_two max_three min_three max_four min_four   -- for this text's walks alone
attribute [local go_sem] Go.Proofs.Ytalnlphinlfenaa.XWalk.cell2
set_option linter.unusedVariables false
set_option linter.unusedSimpArgs false

/-! ### lombardlaw11_alive: function 11 -/
def lombardlaw11_alive.f (k : Nat)  : Option (Bool) := (table_Roll.f k 1000 (([500, 605] : List Int)) 100000000000).bind fun bt203 => ((table_Plug.f k bt203.1 100000000000).bind fun bt207 => (if bt203.2 = 0 then ((lombardlaw11_from.f k bt203.1).bind fun t209 => ((lombardref11_Same.f k t209 (([(⟨1000, 100, 500, 600⟩ : S59), (⟨600, 5, 605, 0⟩ : S59)] : List (S59)))).bind fun t215 => (if t215 = true then (if bt207.1 = (-55) then (some (bt207.2 == 0)) else (some false)) else (some false)))) else (some false)))
theorem lombardlaw11_alive.mono : ∀ k, LeO (lombardlaw11_alive.f k ) (lombardlaw11_alive.f (k + 1) ) := by
  intro  k
  unfold lombardlaw11_alive.f
  repeat' first
      | (with_reducible exact lombardlaw11_from.mono _ _)
      | (with_reducible exact lombardref11_Same.mono _ _ _)
      | (with_reducible exact table_Plug.mono _ _ _)
      | (with_reducible exact table_Roll.mono _ _ _ _)
      | (with_reducible exact LeO.refl _)
      | (with_reducible exact LeO.none _)
      | (with_reducible refine LeO.ite ?_ ?_)
      | (with_reducible refine LeO.bind ?_ (fun _ => ?_))
      | exact lombardlaw11_from.mono _ _
      | exact lombardref11_Same.mono _ _ _
      | exact table_Plug.mono _ _ _
      | exact table_Roll.mono _ _ _ _
      | exact LeO.none _
      | refine LeO.ite ?_ ?_
      | refine LeO.bind ?_ (fun _ => ?_)
set_option maxHeartbeats 8000000 in
set_option maxRecDepth 100000 in
theorem lombardlaw11_alive.calls (k : Nat)  (r : Bool) (w : World) (h : lombardlaw11_alive.f k  = some r) :
    Calls Try.prog 11 #[] w fun e w' => e = .returned (.bool r) ∧ Below w.heap.size w w' := by
  have hu59 := Try.underlying59
  have HB := Aside0.mk (Below.refl w.heap.size w)
  have H : ((table_Roll.f k 1000 (([500, 605] : List Int)) 100000000000).bind fun bt203 => ((table_Plug.f k bt203.1 100000000000).bind fun bt207 => (if bt203.2 = 0 then ((lombardlaw11_from.f k bt203.1).bind fun t209 => ((lombardref11_Same.f k t209 (([(⟨1000, 100, 500, 600⟩ : S59), (⟨600, 5, 605, 0⟩ : S59)] : List (S59)))).bind fun t215 => (if t215 = true then (if bt207.1 = (-55) then (some (bt207.2 == 0)) else (some false)) else (some false)))) else (some false)))) = some r := h
  clear h
  obtain ⟨y200, hy200⟩ : ∃ y_ : List Int, y_ = (([500, 605] : List Int)) := ⟨_, rfl⟩
  replace H : ((table_Roll.f k 1000 y200 100000000000).bind fun bt203 => ((table_Plug.f k bt203.1 100000000000).bind fun bt207 => (if bt203.2 = 0 then ((lombardlaw11_from.f k bt203.1).bind fun t209 => ((lombardref11_Same.f k t209 (([(⟨1000, 100, 500, 600⟩ : S59), (⟨600, 5, 605, 0⟩ : S59)] : List (S59)))).bind fun t215 => (if t215 = true then (if bt207.1 = (-55) then (some (bt207.2 == 0)) else (some false)) else (some false)))) else (some false)))) = some r := by first | (rw [hy200]; with_reducible exact H) | (have H2_ := (Option.bind_some _ _).symm.trans H; rw [hy200]; with_reducible exact H2_) | (have H2_ := (Option.bind_some _ _).symm.trans H; with_reducible exact H2_) | with_reducible exact H | (rw [hy200]; exact H) | exact H
  have Ny200 := Aside0.mk hy200
  clear hy200
  replace H := Option.bind_eq_some_iff.mp H
  obtain ⟨⟨t203, t204⟩, A10, H⟩ := H
  replace H : ((table_Plug.f k t203 100000000000).bind fun bt207 => (if t204 = 0 then ((lombardlaw11_from.f k t203).bind fun t209 => ((lombardref11_Same.f k t209 (([(⟨1000, 100, 500, 600⟩ : S59), (⟨600, 5, 605, 0⟩ : S59)] : List (S59)))).bind fun t215 => (if t215 = true then (if bt207.1 = (-55) then (some (bt207.2 == 0)) else (some false)) else (some false)))) else (some false))) = some r := H
  have A1 := Aside0.mk A10
  clear A10
  replace H := Option.bind_eq_some_iff.mp H
  obtain ⟨⟨t207, t208⟩, A20, H⟩ := H
  replace H : (if t204 = 0 then ((lombardlaw11_from.f k t203).bind fun t209 => ((lombardref11_Same.f k t209 (([(⟨1000, 100, 500, 600⟩ : S59), (⟨600, 5, 605, 0⟩ : S59)] : List (S59)))).bind fun t215 => (if t215 = true then (if t207 = (-55) then (some (t208 == 0)) else (some false)) else (some false)))) else (some false)) = some r := H
  have A2 := Aside0.mk A20
  clear A20
  have HC3 := Aside0.mk H
  clear H
  go_enter Try.func11, Try.ntmps11
  go_upto_region 3 with (first | ((with_reducible refine gate_dst (N := 6) rfl ?_); (try (refine gate_guard (by rfl) ?_; dsimp only)); refine Kd.R_lit (Kd.int .i64) _ 2 ?hg (N := 6) ?hd (xs := ([500, 605] : List Int)) (inner := [.int .i64 500, .int .i64 605]) (ok := fun _ => True) (okp := fun _ => True) ?hr ?hp (fun _ hk => hk) trivial (Below.refl _ _) (Nat.le_refl _) (by simp) ?_; (case hd => rfl); (case hg => rfl); (case hr => first | (go_simp; done) | (go_simp; rfl)); (case hp => exact (Reps.one (show Kd.M (Kd.int .i64) _ _ _ 500 [.int .i64 500] from rfl) (Reps.one (show Kd.M (Kd.int .i64) _ _ _ 605 [.int .i64 605] from rfl) (Reps.none _ _)))); intro v201 w4 ho5 hb hg_ hnew_; clear hg_ hnew_; (first | rw [← Ny200.out] at ho5 | (simp only [Int.reduceToNat] at ho5; rw [← Ny200.out] at ho5)); have n0_ := Aside0.mk (Kd.R_lower ho5 (below_size (by repeat (first | (with_reducible first | exact HB.out | apply below_alloc | apply pw_below_drewN | apply below_drew1) | exact HB.out)))); have n1_ := Aside0.mk (below_step (by repeat (first | (with_reducible first | exact HB.out | apply below_alloc | apply pw_below_drewN | apply below_drew1) | exact HB.out)) hb); clear HB; have HO202 := n0_; have HB := n1_; clear n0_ n1_; clear hb ho5; obtain ⟨Ao6, co6, eo6⟩ := Kd.R_slice HO202.out; subst eo6) | ((with_reducible refine gate_callee (f := 12) rfl ?_); refine goesL_ (some 7) rfl rfl Try.func12 (by kernel_rfl) rfl #[.int .i64 1000, .slice Ao6 y200.length co6, .int .i64 100000000000] rfl (by (try simp only [List.map_toArray, List.map_cons, List.map_nil]); first | done | rfl | (simp only [List.length_drop, List.length_take]; rfl)) ?_; (with_reducible refine (table_Roll.calls k 1000 _ _ y200 100000000000 t203 t204 _ ?side1 ?side2 A1.out).mono ?_); (case side1 => repeat (first | exact (Kd.R_reads' HO202.out).2.2 | (with_reducible refine Kd.C_alloc ?_ _) | (with_reducible refine Kd.C_drewN ?_ _) | (with_reducible refine Kd.C_drew ?_))); (case side2 => exact (Kd.R_reads' HO202.out).2.1); rintro e w7 ⟨v205, rfl, ho0, hb⟩; refine ⟨_, rfl, ?_⟩; have n0_ := Aside0.mk (Kd.R_below (by (with_reducible repeat (first | apply Kd.R_alloc | apply Kd.R_drewN | apply Kd.R_drew)); exact HO202.out) hb); have n1_ := Aside0.mk (Kd.R_lower ho0 (below_size (by repeat (first | (with_reducible first | exact HB.out | apply below_alloc | apply pw_below_drewN | apply below_drew1) | exact HB.out)))); have n2_ := Aside0.mk (below_step (by repeat (first | (with_reducible first | exact HB.out | apply below_alloc | apply pw_below_drewN | apply below_drew1) | exact HB.out)) hb); clear HO202; clear HB; have HO202 := n0_; have HO206 := n1_; have HB := n2_; clear n0_ n1_ n2_; (try clear hb); (try clear hb2); (try clear hk); (try clear hi); (try clear ho0); obtain ⟨Ao8, co8, eo8⟩ := Kd.R_slice HO206.out; subst eo8) | ((with_reducible refine gate_callee (f := 25) rfl ?_); refine goesL_ (some 12) rfl rfl Try.func25 (by kernel_rfl) rfl #[.slice Ao8 t203.length co8, .int .i64 100000000000] rfl (by (try simp only [List.map_toArray, List.map_cons, List.map_nil]); first | done | rfl | (simp only [List.length_drop, List.length_take]; rfl)) ?_; (with_reducible refine (table_Plug.calls k _ _ t203 100000000000 t207 t208 _ ?side1 ?side2 A2.out).mono ?_); (case side1 => repeat (first | exact (Kd.R_reads' HO206.out).2.2 | (with_reducible refine Kd.C_alloc ?_ _) | (with_reducible refine Kd.C_drewN ?_ _) | (with_reducible refine Kd.C_drew ?_))); (case side2 => exact (Kd.R_reads' HO206.out).2.1); rintro e w9 ⟨rfl, hb⟩; refine ⟨_, rfl, ?_⟩; have n0_ := Aside0.mk (Kd.R_below (by (with_reducible repeat (first | apply Kd.R_alloc | apply Kd.R_drewN | apply Kd.R_drew)); exact HO202.out) hb); have n1_ := Aside0.mk (Kd.R_below (by (with_reducible repeat (first | apply Kd.R_alloc | apply Kd.R_drewN | apply Kd.R_drew)); exact HO206.out) hb); have n2_ := Aside0.mk (below_step (by repeat (first | (with_reducible first | exact HB.out | apply below_alloc | apply pw_below_drewN | apply below_drew1) | exact HB.out)) hb); clear HO202; clear HO206; clear HB; have HO202 := n0_; have HO206 := n1_; have HB := n2_; clear n0_ n1_ n2_; (try clear hb); (try clear hb2); (try clear hk); (try clear hi)))
  have H := HC3.out
  clear HC3
  by_cases c10 : t204 = 0
  · rw [if_pos c10] at H
    have c10b0 : (t204 == 0) = true := beq_iff_eq.mpr c10
    have c10b1 : (t204 != 0) = false := bne_eq_false_iff_eq.mpr c10
    clear c10
    replace H := Option.bind_eq_some_iff.mp H
    obtain ⟨t209, A110, H⟩ := H
    replace H : ((lombardref11_Same.f k t209 (([(⟨1000, 100, 500, 600⟩ : S59), (⟨600, 5, 605, 0⟩ : S59)] : List (S59)))).bind fun t215 => (if t215 = true then (if t207 = (-55) then (some (t208 == 0)) else (some false)) else (some false))) = some r := H
    have A11 := Aside0.mk A110
    clear A110
    obtain ⟨y212, hy212⟩ : ∃ y_ : List (S59), y_ = (([(⟨1000, 100, 500, 600⟩ : S59), (⟨600, 5, 605, 0⟩ : S59)] : List (S59))) := ⟨_, rfl⟩
    replace H : ((lombardref11_Same.f k t209 y212).bind fun t215 => (if t215 = true then (if t207 = (-55) then (some (t208 == 0)) else (some false)) else (some false))) = some r := by first | (rw [hy212]; with_reducible exact H) | (have H2_ := (Option.bind_some _ _).symm.trans H; rw [hy212]; with_reducible exact H2_) | (have H2_ := (Option.bind_some _ _).symm.trans H; with_reducible exact H2_) | with_reducible exact H | (rw [hy212]; exact H) | exact H
    have Ny212 := Aside0.mk hy212
    clear hy212
    replace H := Option.bind_eq_some_iff.mp H
    obtain ⟨t215, A120, H⟩ := H
    replace H : (if t215 = true then (if t207 = (-55) then (some (t208 == 0)) else (some false)) else (some false)) = some r := H
    have A12 := Aside0.mk A120
    clear A120
    by_cases c13 : t215 = true
    · subst c13
      have H1 : (if t207 = (-55) then (some (t208 == 0)) else (some false)) = some r := by rw [if_pos rfl] at H; exact H
      clear H
      have H := H1
      clear H1
      by_cases c14 : t207 = (-55)
      · rw [if_pos c14] at H
        have c14b0 : (t207 == (-55)) = true := beq_iff_eq.mpr c14
        have c14b1 : (t207 != (-55)) = false := bne_eq_false_iff_eq.mpr c14
        clear c14
        obtain rfl := Option.some.inj H
        go_wp2_with (first | (go_at_call 15; (with_reducible refine (lombardlaw11_from.calls k _ _ t203 t209 _ ?side1 ?side2 A11.out).mono ?_); (case side1 => repeat (first | exact (Kd.R_reads' HO206.out).2.2 | (with_reducible refine Kd.C_alloc ?_ _) | (with_reducible refine Kd.C_drewN ?_ _) | (with_reducible refine Kd.C_drew ?_))); (case side2 => exact (Kd.R_reads' HO206.out).2.1); rintro e w15 ⟨v210, rfl, ho0, hb⟩; have n0_ := Aside0.mk (Kd.R_below (by (with_reducible repeat (first | apply Kd.R_alloc | apply Kd.R_drewN | apply Kd.R_drew)); exact HO202.out) hb); have n1_ := Aside0.mk (Kd.R_below (by (with_reducible repeat (first | apply Kd.R_alloc | apply Kd.R_drewN | apply Kd.R_drew)); exact HO206.out) hb); have n2_ := Aside0.mk (Kd.R_lower ho0 (below_size (by repeat (first | (with_reducible first | exact HB.out | apply below_alloc | apply pw_below_drewN | apply below_drew1) | exact HB.out)))); have n3_ := Aside0.mk (below_step (by repeat (first | (with_reducible first | exact HB.out | apply below_alloc | apply pw_below_drewN | apply below_drew1) | exact HB.out)) hb); clear HO202; clear HO206; clear HB; have HO202 := n0_; have HO206 := n1_; have HO211 := n2_; have HB := n3_; clear n0_ n1_ n2_ n3_; (try clear hb); (try clear hb2); (try clear hk); (try clear hi); (try clear ho0)) | ((with_reducible refine gate_dst (N := 22) rfl ?_); (try (refine gate_guard (by rfl) ?_; dsimp only)); refine Kd.R_lit k59 _ 59 ?hg (N := 22) ?hd (xs := ([(⟨1000, 100, 500, 600⟩ : S59), (⟨600, 5, 605, 0⟩ : S59)] : List (S59))) (inner := [.int .i64 1000, .int .i64 100, .int .i64 500, .int .i64 600, .int .i64 600, .int .i64 5, .int .i64 605, .int .i64 0]) (ok := fun _ => True) (okp := fun _ => True) ?hr ?hp (fun _ hk => hk) trivial (Below.refl _ _) (Nat.le_refl _) (by simp) ?_; (case hd => rfl); (case hg => rfl); (case hr => first | (go_simp; done) | (go_simp; rfl)); (case hp => exact (Reps.c4 (show Kd.M k59 _ _ _ (⟨1000, 100, 500, 600⟩ : S59) [.int .i64 1000, .int .i64 100, .int .i64 500, .int .i64 600] from (k59_mkM _ _ _ (⟨1000, 100, 500, 600⟩ : S59) )) (Reps.c4 (show Kd.M k59 _ _ _ (⟨600, 5, 605, 0⟩ : S59) [.int .i64 600, .int .i64 5, .int .i64 605, .int .i64 0] from (k59_mkM _ _ _ (⟨600, 5, 605, 0⟩ : S59) )) (Reps.none _ _)))); intro v213 w16 ho17 hb hg_ hnew_; clear hg_ hnew_; (first | rw [← Ny212.out] at ho17 | (simp only [Int.reduceToNat] at ho17; rw [← Ny212.out] at ho17)); have n0_ := Aside0.mk (Kd.R_below (by (with_reducible repeat (first | apply Kd.R_alloc | apply Kd.R_drewN | apply Kd.R_drew)); exact HO202.out) hb); have n1_ := Aside0.mk (Kd.R_below (by (with_reducible repeat (first | apply Kd.R_alloc | apply Kd.R_drewN | apply Kd.R_drew)); exact HO206.out) hb); have n2_ := Aside0.mk (Kd.R_elder' (by (with_reducible repeat (first | apply Kd.R_alloc | apply Kd.R_drewN | apply Kd.R_drew)); exact HO211.out) (Kd.R_base ho17) hb); have n3_ := Aside0.mk (Kd.R_lower (Kd.R_new' ho17 (Kd.R_lt (by (with_reducible repeat (first | apply Kd.R_alloc | apply Kd.R_drewN | apply Kd.R_drew)); exact HO211.out))) (below_size (by repeat (first | (with_reducible first | exact HB.out | apply below_alloc | apply pw_below_drewN | apply below_drew1) | exact HB.out)))); have n4_ := Aside0.mk (below_step (by repeat (first | (with_reducible first | exact HB.out | apply below_alloc | apply pw_below_drewN | apply below_drew1) | exact HB.out)) hb); clear HO202; clear HO206; clear HO211; clear HB; have HO202 := n0_; have HO206 := n1_; have HO211 := n2_; have HO214 := n3_; have HB := n4_; clear n0_ n1_ n2_ n3_ n4_; clear hb ho17; obtain ⟨Ao18, co18, eo18⟩ := Kd.R_slice HO211.out; subst eo18; obtain ⟨Ao19, co19, eo19⟩ := Kd.R_slice HO214.out; subst eo19) | (go_at_call 14; (with_reducible refine (lombardref11_Same.calls k _ _ t209 _ _ y212 true _ ?side1 ?side2 ?side3 ?side4 A12.out).mono ?_); (case side1 => repeat (first | exact (Kd.R_reads' HO211.out).2.2 | (with_reducible refine Kd.C_alloc ?_ _) | (with_reducible refine Kd.C_drewN ?_ _) | (with_reducible refine Kd.C_drew ?_))); (case side2 => exact (Kd.R_reads' HO211.out).2.1); (case side3 => repeat (first | exact (Kd.R_reads' HO214.out).2.2 | (with_reducible refine Kd.C_alloc ?_ _) | (with_reducible refine Kd.C_drewN ?_ _) | (with_reducible refine Kd.C_drew ?_))); (case side4 => exact (Kd.R_reads' HO214.out).2.1); rintro e w' ⟨rfl, ⟨nd, rfl⟩⟩))
        go_ret
        exact ⟨by first | rfl | (simp [errW_none, errW_some] <;> rfl) | (simp [*, errW_none, errW_some] <;> rfl), by repeat (first | (with_reducible first | exact HB.out | apply below_alloc | apply pw_below_drewN | apply below_drew1) | exact HB.out)⟩
      · rw [if_neg c14] at H
        have c14b0 : (t207 == (-55)) = false := beq_eq_false_iff_ne.mpr c14
        have c14b1 : (t207 != (-55)) = true := bne_iff_ne.mpr c14
        obtain rfl := Option.some.inj H
        go_wp2_with (first | (go_at_call 15; (with_reducible refine (lombardlaw11_from.calls k _ _ t203 t209 _ ?side1 ?side2 A11.out).mono ?_); (case side1 => repeat (first | exact (Kd.R_reads' HO206.out).2.2 | (with_reducible refine Kd.C_alloc ?_ _) | (with_reducible refine Kd.C_drewN ?_ _) | (with_reducible refine Kd.C_drew ?_))); (case side2 => exact (Kd.R_reads' HO206.out).2.1); rintro e w20 ⟨v210, rfl, ho0, hb⟩; have n0_ := Aside0.mk (Kd.R_below (by (with_reducible repeat (first | apply Kd.R_alloc | apply Kd.R_drewN | apply Kd.R_drew)); exact HO202.out) hb); have n1_ := Aside0.mk (Kd.R_below (by (with_reducible repeat (first | apply Kd.R_alloc | apply Kd.R_drewN | apply Kd.R_drew)); exact HO206.out) hb); have n2_ := Aside0.mk (Kd.R_lower ho0 (below_size (by repeat (first | (with_reducible first | exact HB.out | apply below_alloc | apply pw_below_drewN | apply below_drew1) | exact HB.out)))); have n3_ := Aside0.mk (below_step (by repeat (first | (with_reducible first | exact HB.out | apply below_alloc | apply pw_below_drewN | apply below_drew1) | exact HB.out)) hb); clear HO202; clear HO206; clear HB; have HO202 := n0_; have HO206 := n1_; have HO211 := n2_; have HB := n3_; clear n0_ n1_ n2_ n3_; (try clear hb); (try clear hb2); (try clear hk); (try clear hi); (try clear ho0)) | ((with_reducible refine gate_dst (N := 22) rfl ?_); (try (refine gate_guard (by rfl) ?_; dsimp only)); refine Kd.R_lit k59 _ 59 ?hg (N := 22) ?hd (xs := ([(⟨1000, 100, 500, 600⟩ : S59), (⟨600, 5, 605, 0⟩ : S59)] : List (S59))) (inner := [.int .i64 1000, .int .i64 100, .int .i64 500, .int .i64 600, .int .i64 600, .int .i64 5, .int .i64 605, .int .i64 0]) (ok := fun _ => True) (okp := fun _ => True) ?hr ?hp (fun _ hk => hk) trivial (Below.refl _ _) (Nat.le_refl _) (by simp) ?_; (case hd => rfl); (case hg => rfl); (case hr => first | (go_simp; done) | (go_simp; rfl)); (case hp => exact (Reps.c4 (show Kd.M k59 _ _ _ (⟨1000, 100, 500, 600⟩ : S59) [.int .i64 1000, .int .i64 100, .int .i64 500, .int .i64 600] from (k59_mkM _ _ _ (⟨1000, 100, 500, 600⟩ : S59) )) (Reps.c4 (show Kd.M k59 _ _ _ (⟨600, 5, 605, 0⟩ : S59) [.int .i64 600, .int .i64 5, .int .i64 605, .int .i64 0] from (k59_mkM _ _ _ (⟨600, 5, 605, 0⟩ : S59) )) (Reps.none _ _)))); intro v213 w21 ho22 hb hg_ hnew_; clear hg_ hnew_; (first | rw [← Ny212.out] at ho22 | (simp only [Int.reduceToNat] at ho22; rw [← Ny212.out] at ho22)); have n0_ := Aside0.mk (Kd.R_below (by (with_reducible repeat (first | apply Kd.R_alloc | apply Kd.R_drewN | apply Kd.R_drew)); exact HO202.out) hb); have n1_ := Aside0.mk (Kd.R_below (by (with_reducible repeat (first | apply Kd.R_alloc | apply Kd.R_drewN | apply Kd.R_drew)); exact HO206.out) hb); have n2_ := Aside0.mk (Kd.R_elder' (by (with_reducible repeat (first | apply Kd.R_alloc | apply Kd.R_drewN | apply Kd.R_drew)); exact HO211.out) (Kd.R_base ho22) hb); have n3_ := Aside0.mk (Kd.R_lower (Kd.R_new' ho22 (Kd.R_lt (by (with_reducible repeat (first | apply Kd.R_alloc | apply Kd.R_drewN | apply Kd.R_drew)); exact HO211.out))) (below_size (by repeat (first | (with_reducible first | exact HB.out | apply below_alloc | apply pw_below_drewN | apply below_drew1) | exact HB.out)))); have n4_ := Aside0.mk (below_step (by repeat (first | (with_reducible first | exact HB.out | apply below_alloc | apply pw_below_drewN | apply below_drew1) | exact HB.out)) hb); clear HO202; clear HO206; clear HO211; clear HB; have HO202 := n0_; have HO206 := n1_; have HO211 := n2_; have HO214 := n3_; have HB := n4_; clear n0_ n1_ n2_ n3_ n4_; clear hb ho22; obtain ⟨Ao23, co23, eo23⟩ := Kd.R_slice HO211.out; subst eo23; obtain ⟨Ao24, co24, eo24⟩ := Kd.R_slice HO214.out; subst eo24) | (go_at_call 14; (with_reducible refine (lombardref11_Same.calls k _ _ t209 _ _ y212 true _ ?side1 ?side2 ?side3 ?side4 A12.out).mono ?_); (case side1 => repeat (first | exact (Kd.R_reads' HO211.out).2.2 | (with_reducible refine Kd.C_alloc ?_ _) | (with_reducible refine Kd.C_drewN ?_ _) | (with_reducible refine Kd.C_drew ?_))); (case side2 => exact (Kd.R_reads' HO211.out).2.1); (case side3 => repeat (first | exact (Kd.R_reads' HO214.out).2.2 | (with_reducible refine Kd.C_alloc ?_ _) | (with_reducible refine Kd.C_drewN ?_ _) | (with_reducible refine Kd.C_drew ?_))); (case side4 => exact (Kd.R_reads' HO214.out).2.1); rintro e w' ⟨rfl, ⟨nd, rfl⟩⟩))
        go_ret
        exact ⟨by first | rfl | (simp [errW_none, errW_some] <;> rfl) | (simp [*, errW_none, errW_some] <;> rfl), by repeat (first | (with_reducible first | exact HB.out | apply below_alloc | apply pw_below_drewN | apply below_drew1) | exact HB.out)⟩
    · replace c13 := Bool.eq_false_iff.mpr c13
      subst c13
      have H1 : (some false) = some r := by rw [if_neg (show ¬ (false = true) by decide)] at H; exact H
      clear H
      have H := H1
      clear H1
      obtain rfl := Option.some.inj H
      go_wp2_with (first | (go_at_call 15; (with_reducible refine (lombardlaw11_from.calls k _ _ t203 t209 _ ?side1 ?side2 A11.out).mono ?_); (case side1 => repeat (first | exact (Kd.R_reads' HO206.out).2.2 | (with_reducible refine Kd.C_alloc ?_ _) | (with_reducible refine Kd.C_drewN ?_ _) | (with_reducible refine Kd.C_drew ?_))); (case side2 => exact (Kd.R_reads' HO206.out).2.1); rintro e w25 ⟨v210, rfl, ho0, hb⟩; have n0_ := Aside0.mk (Kd.R_below (by (with_reducible repeat (first | apply Kd.R_alloc | apply Kd.R_drewN | apply Kd.R_drew)); exact HO202.out) hb); have n1_ := Aside0.mk (Kd.R_below (by (with_reducible repeat (first | apply Kd.R_alloc | apply Kd.R_drewN | apply Kd.R_drew)); exact HO206.out) hb); have n2_ := Aside0.mk (Kd.R_lower ho0 (below_size (by repeat (first | (with_reducible first | exact HB.out | apply below_alloc | apply pw_below_drewN | apply below_drew1) | exact HB.out)))); have n3_ := Aside0.mk (below_step (by repeat (first | (with_reducible first | exact HB.out | apply below_alloc | apply pw_below_drewN | apply below_drew1) | exact HB.out)) hb); clear HO202; clear HO206; clear HB; have HO202 := n0_; have HO206 := n1_; have HO211 := n2_; have HB := n3_; clear n0_ n1_ n2_ n3_; (try clear hb); (try clear hb2); (try clear hk); (try clear hi); (try clear ho0)) | ((with_reducible refine gate_dst (N := 22) rfl ?_); (try (refine gate_guard (by rfl) ?_; dsimp only)); refine Kd.R_lit k59 _ 59 ?hg (N := 22) ?hd (xs := ([(⟨1000, 100, 500, 600⟩ : S59), (⟨600, 5, 605, 0⟩ : S59)] : List (S59))) (inner := [.int .i64 1000, .int .i64 100, .int .i64 500, .int .i64 600, .int .i64 600, .int .i64 5, .int .i64 605, .int .i64 0]) (ok := fun _ => True) (okp := fun _ => True) ?hr ?hp (fun _ hk => hk) trivial (Below.refl _ _) (Nat.le_refl _) (by simp) ?_; (case hd => rfl); (case hg => rfl); (case hr => first | (go_simp; done) | (go_simp; rfl)); (case hp => exact (Reps.c4 (show Kd.M k59 _ _ _ (⟨1000, 100, 500, 600⟩ : S59) [.int .i64 1000, .int .i64 100, .int .i64 500, .int .i64 600] from (k59_mkM _ _ _ (⟨1000, 100, 500, 600⟩ : S59) )) (Reps.c4 (show Kd.M k59 _ _ _ (⟨600, 5, 605, 0⟩ : S59) [.int .i64 600, .int .i64 5, .int .i64 605, .int .i64 0] from (k59_mkM _ _ _ (⟨600, 5, 605, 0⟩ : S59) )) (Reps.none _ _)))); intro v213 w26 ho27 hb hg_ hnew_; clear hg_ hnew_; (first | rw [← Ny212.out] at ho27 | (simp only [Int.reduceToNat] at ho27; rw [← Ny212.out] at ho27)); have n0_ := Aside0.mk (Kd.R_below (by (with_reducible repeat (first | apply Kd.R_alloc | apply Kd.R_drewN | apply Kd.R_drew)); exact HO202.out) hb); have n1_ := Aside0.mk (Kd.R_below (by (with_reducible repeat (first | apply Kd.R_alloc | apply Kd.R_drewN | apply Kd.R_drew)); exact HO206.out) hb); have n2_ := Aside0.mk (Kd.R_elder' (by (with_reducible repeat (first | apply Kd.R_alloc | apply Kd.R_drewN | apply Kd.R_drew)); exact HO211.out) (Kd.R_base ho27) hb); have n3_ := Aside0.mk (Kd.R_lower (Kd.R_new' ho27 (Kd.R_lt (by (with_reducible repeat (first | apply Kd.R_alloc | apply Kd.R_drewN | apply Kd.R_drew)); exact HO211.out))) (below_size (by repeat (first | (with_reducible first | exact HB.out | apply below_alloc | apply pw_below_drewN | apply below_drew1) | exact HB.out)))); have n4_ := Aside0.mk (below_step (by repeat (first | (with_reducible first | exact HB.out | apply below_alloc | apply pw_below_drewN | apply below_drew1) | exact HB.out)) hb); clear HO202; clear HO206; clear HO211; clear HB; have HO202 := n0_; have HO206 := n1_; have HO211 := n2_; have HO214 := n3_; have HB := n4_; clear n0_ n1_ n2_ n3_ n4_; clear hb ho27; obtain ⟨Ao28, co28, eo28⟩ := Kd.R_slice HO211.out; subst eo28; obtain ⟨Ao29, co29, eo29⟩ := Kd.R_slice HO214.out; subst eo29) | (go_at_call 14; (with_reducible refine (lombardref11_Same.calls k _ _ t209 _ _ y212 false _ ?side1 ?side2 ?side3 ?side4 A12.out).mono ?_); (case side1 => repeat (first | exact (Kd.R_reads' HO211.out).2.2 | (with_reducible refine Kd.C_alloc ?_ _) | (with_reducible refine Kd.C_drewN ?_ _) | (with_reducible refine Kd.C_drew ?_))); (case side2 => exact (Kd.R_reads' HO211.out).2.1); (case side3 => repeat (first | exact (Kd.R_reads' HO214.out).2.2 | (with_reducible refine Kd.C_alloc ?_ _) | (with_reducible refine Kd.C_drewN ?_ _) | (with_reducible refine Kd.C_drew ?_))); (case side4 => exact (Kd.R_reads' HO214.out).2.1); rintro e w' ⟨rfl, ⟨nd, rfl⟩⟩))
      go_ret
      exact ⟨by first | rfl | (simp [errW_none, errW_some] <;> rfl) | (simp [*, errW_none, errW_some] <;> rfl), by repeat (first | (with_reducible first | exact HB.out | apply below_alloc | apply pw_below_drewN | apply below_drew1) | exact HB.out)⟩
  · rw [if_neg c10] at H
    have c10b0 : (t204 == 0) = false := beq_eq_false_iff_ne.mpr c10
    have c10b1 : (t204 != 0) = true := bne_iff_ne.mpr c10
    obtain rfl := Option.some.inj H
    go_wp2
    go_ret
    exact ⟨by first | rfl | (simp [errW_none, errW_some] <;> rfl) | (simp [*, errW_none, errW_some] <;> rfl), by repeat (first | (with_reducible first | exact HB.out | apply below_alloc | apply pw_below_drewN | apply below_drew1) | exact HB.out)⟩

end Go.Proofs.Ytalnlphinlfenaa.S
end

section
namespace Go.Proofs.Ytalnlphinlfenaa.S
open Go.RowKit Go.Proofs.YtalnlphinlfenaaW.PrintWords Go.Proofs.YtalnlphinlfenaaW.PrintLast Go.Proofs.YtalnlphinlfenaaW.PrintMore
attribute [local go_sem] max2_int min2_int max_two min_two max_three min_three max_four min_four   -- for this text's walks alone
attribute [local go_sem] Go.Proofs.Ytalnlphinlfenaa.XWalk.cell2
set_option linter.unusedVariables false
set_option linter.unusedSimpArgs false

/-! ### lombardlaw11_TableRolls: function 3 -/
def lombardlaw11_TableRolls.f (k : Nat) (a0 : Int) (l1 : List Int) (a2 : Int) : Option (Bool) := (lombardlaw11_alive.f k).bind fun t241 => (if t241 = true then (if (l1.length : Int) > 700 then (some true) else ((table_Roll.f k a0 l1 a2).bind fun bt242 => ((lombardref11_Roll.f k a0 l1 a2).bind fun bt246 => ((lombardlaw11_from.f k bt242.1).bind fun t250 => ((lombardref11_Same.f k t250 bt246.1).bind fun t253 => (if t253 = true then (some (bt242.2 == bt246.2)) else (some false))))))) else (some false))
theorem lombardlaw11_TableRolls.mono : ∀ a0 a1 a2 k, LeO (lombardlaw11_TableRolls.f k a0 a1 a2) (lombardlaw11_TableRolls.f (k + 1) a0 a1 a2) := by
  intro a0 a1 a2 k
  unfold lombardlaw11_TableRolls.f
  repeat' first
      | (with_reducible exact lombardlaw11_alive.mono _)
      | (with_reducible exact lombardlaw11_from.mono _ _)
      | (with_reducible exact lombardref11_Roll.mono _ _ _ _)
      | (with_reducible exact lombardref11_Same.mono _ _ _)
      | (with_reducible exact table_Roll.mono _ _ _ _)
      | (with_reducible exact LeO.refl _)
      | (with_reducible exact LeO.none _)
      | (with_reducible refine LeO.ite ?_ ?_)
      | (with_reducible refine LeO.bind ?_ (fun _ => ?_))
      | exact lombardlaw11_alive.mono _
      | exact lombardlaw11_from.mono _ _
      | exact lombardref11_Roll.mono _ _ _ _
      | exact lombardref11_Same.mono _ _ _
      | exact table_Roll.mono _ _ _ _
      | exact LeO.none _
      | refine LeO.ite ?_ ?_
      | refine LeO.bind ?_ (fun _ => ?_)
set_option maxHeartbeats 8000000 in
set_option maxRecDepth 100000 in
theorem lombardlaw11_TableRolls.calls (k : Nat) (a0 : Int) (A1 : Option Addr) (c1 : Nat) (l1 : List Int) (a2 : Int) (r : Bool) (w : World) (hr1 : Kd.C (Kd.int .i64) w A1 l1.length l1) (hc1 : l1.length ≤ c1) (h : lombardlaw11_TableRolls.f k a0 l1 a2 = some r) :
    Calls Try.prog 3 #[.int .i64 a0, .slice A1 l1.length c1, .int .i64 a2] w fun e w' => e = .returned (.bool r) ∧ Below w.heap.size w w' := by
  have HR1 := Aside0.mk hr1
  have HC1 := Aside0.mk hc1
  clear hr1 hc1
  have HB := Aside0.mk (Below.refl w.heap.size w)
  have H : ((lombardlaw11_alive.f k).bind fun t241 => (if t241 = true then (if (l1.length : Int) > 700 then (some true) else ((table_Roll.f k a0 l1 a2).bind fun bt242 => ((lombardref11_Roll.f k a0 l1 a2).bind fun bt246 => ((lombardlaw11_from.f k bt242.1).bind fun t250 => ((lombardref11_Same.f k t250 bt246.1).bind fun t253 => (if t253 = true then (some (bt242.2 == bt246.2)) else (some false))))))) else (some false))) = some r := h
  clear h
  replace H := Option.bind_eq_some_iff.mp H
  obtain ⟨t241, A40, H⟩ := H
  replace H : (if t241 = true then (if (l1.length : Int) > 700 then (some true) else ((table_Roll.f k a0 l1 a2).bind fun bt242 => ((lombardref11_Roll.f k a0 l1 a2).bind fun bt246 => ((lombardlaw11_from.f k bt242.1).bind fun t250 => ((lombardref11_Same.f k t250 bt246.1).bind fun t253 => (if t253 = true then (some (bt242.2 == bt246.2)) else (some false))))))) else (some false)) = some r := H
  have A4 := Aside0.mk A40
  clear A40
  by_cases c5 : t241 = true
  · subst c5
    have H1 : (if (l1.length : Int) > 700 then (some true) else ((table_Roll.f k a0 l1 a2).bind fun bt242 => ((lombardref11_Roll.f k a0 l1 a2).bind fun bt246 => ((lombardlaw11_from.f k bt242.1).bind fun t250 => ((lombardref11_Same.f k t250 bt246.1).bind fun t253 => (if t253 = true then (some (bt242.2 == bt246.2)) else (some false))))))) = some r := by rw [if_pos rfl] at H; exact H
    clear H
    have H := H1
    clear H1
    by_cases c6 : (l1.length : Int) > 700
    · rw [if_pos c6] at H
      have c6b0 : decide (700 < (l1.length : Int)) = true := decide_eq_true c6
      have c6b1 : decide (700 < l1.length) = true := decide_eq_true (by omega)
      clear c6
      obtain rfl := Option.some.inj H
      go_enter Try.func3, Try.ntmps3
      go_wp2_with (first | ((with_reducible refine gate_callee (f := 11) rfl ?_); refine goesL_ (some 11) rfl rfl Try.func11 (by kernel_rfl) rfl #[] rfl (by (try simp only [List.map_toArray, List.map_cons, List.map_nil]); first | done | rfl | (simp only [List.length_drop, List.length_take]; rfl)) ?_; (with_reducible refine (lombardlaw11_alive.calls k  true _ A4.out).mono ?_); rintro e w7 ⟨rfl, hb⟩; refine ⟨_, rfl, ?_⟩; have n0_ := Aside0.mk (below_step (by repeat (first | (with_reducible first | exact HB.out | apply below_alloc | apply pw_below_drewN | apply below_drew1) | exact HB.out)) hb); clear HB; have HB := n0_; clear n0_; (try clear hb); (try clear hb2); (try clear hk); (try clear hi)))
      go_ret
      exact ⟨by first | rfl | (simp [errW_none, errW_some] <;> rfl) | (simp [*, errW_none, errW_some] <;> rfl), by repeat (first | (with_reducible first | exact HB.out | apply below_alloc | apply pw_below_drewN | apply below_drew1) | exact HB.out)⟩
    · rw [if_neg c6] at H
      have c6b0 : decide (700 < (l1.length : Int)) = false := decide_eq_false c6
      have c6b1 : decide (700 < l1.length) = false := decide_eq_false (by omega)
      clear c6
      replace H := Option.bind_eq_some_iff.mp H
      obtain ⟨⟨t242, t243⟩, A80, H⟩ := H
      replace H : ((lombardref11_Roll.f k a0 l1 a2).bind fun bt246 => ((lombardlaw11_from.f k t242).bind fun t250 => ((lombardref11_Same.f k t250 bt246.1).bind fun t253 => (if t253 = true then (some (t243 == bt246.2)) else (some false))))) = some r := H
      have A8 := Aside0.mk A80
      clear A80
      replace H := Option.bind_eq_some_iff.mp H
      obtain ⟨⟨t246, t247⟩, A90, H⟩ := H
      replace H : ((lombardlaw11_from.f k t242).bind fun t250 => ((lombardref11_Same.f k t250 t246).bind fun t253 => (if t253 = true then (some (t243 == t247)) else (some false)))) = some r := H
      have A9 := Aside0.mk A90
      clear A90
      have HC10 := Aside0.mk H
      clear H
      go_enter Try.func3, Try.ntmps3
      go_upto_region 7 with (first | ((with_reducible refine gate_callee (f := 11) rfl ?_); refine goesL_ (some 11) rfl rfl Try.func11 (by kernel_rfl) rfl #[] rfl (by (try simp only [List.map_toArray, List.map_cons, List.map_nil]); first | done | rfl | (simp only [List.length_drop, List.length_take]; rfl)) ?_; (with_reducible refine (lombardlaw11_alive.calls k  true _ A4.out).mono ?_); rintro e w11 ⟨rfl, hb⟩; refine ⟨_, rfl, ?_⟩; have n0_ := Aside0.mk (below_step (by repeat (first | (with_reducible first | exact HB.out | apply below_alloc | apply pw_below_drewN | apply below_drew1) | exact HB.out)) hb); clear HB; have HB := n0_; clear n0_; (try clear hb); (try clear hb2); (try clear hk); (try clear hi)) | ((with_reducible refine gate_callee (f := 12) rfl ?_); refine goesL_ (some 20) rfl rfl Try.func12 (by kernel_rfl) rfl #[.int .i64 a0, .slice A1 l1.length c1, .int .i64 a2] rfl (by (try simp only [List.map_toArray, List.map_cons, List.map_nil]); first | done | rfl | (simp only [List.length_drop, List.length_take]; rfl)) ?_; (with_reducible refine (table_Roll.calls k a0 _ _ l1 a2 t242 t243 _ ?side1 ?side2 A8.out).mono ?_); (case side1 => repeat (first | exact (Kd.C_below HR1.out HB.out) | (with_reducible refine Kd.C_alloc ?_ _) | (with_reducible refine Kd.C_drewN ?_ _) | (with_reducible refine Kd.C_drew ?_))); (case side2 => exact HC1.out); rintro e w12 ⟨v244, rfl, ho0, hb⟩; refine ⟨_, rfl, ?_⟩; have n0_ := Aside0.mk (Kd.R_lower ho0 (below_size (by repeat (first | (with_reducible first | exact HB.out | apply below_alloc | apply pw_below_drewN | apply below_drew1) | exact HB.out)))); have n1_ := Aside0.mk (below_step (by repeat (first | (with_reducible first | exact HB.out | apply below_alloc | apply pw_below_drewN | apply below_drew1) | exact HB.out)) hb); clear HB; have HO245 := n0_; have HB := n1_; clear n0_ n1_; (try clear hb); (try clear hb2); (try clear hk); (try clear hi); (try clear ho0)) | ((with_reducible refine gate_callee (f := 13) rfl ?_); refine goesL_ (some 27) rfl rfl Try.func13 (by kernel_rfl) rfl #[.int .i64 a0, .slice A1 l1.length c1, .int .i64 a2] rfl (by (try simp only [List.map_toArray, List.map_cons, List.map_nil]); first | done | rfl | (simp only [List.length_drop, List.length_take]; rfl)) ?_; (with_reducible refine (lombardref11_Roll.calls k a0 _ _ l1 a2 t246 t247 _ ?side1 ?side2 A9.out).mono ?_); (case side1 => repeat (first | exact (Kd.C_below HR1.out HB.out) | (with_reducible refine Kd.C_alloc ?_ _) | (with_reducible refine Kd.C_drewN ?_ _) | (with_reducible refine Kd.C_drew ?_))); (case side2 => exact HC1.out); rintro e w13 ⟨v248, rfl, ho0, hb⟩; refine ⟨_, rfl, ?_⟩; have n0_ := Aside0.mk (Kd.R_below (by (with_reducible repeat (first | apply Kd.R_alloc | apply Kd.R_drewN | apply Kd.R_drew)); exact HO245.out) hb); have n1_ := Aside0.mk (Kd.R_lower ho0 (below_size (by repeat (first | (with_reducible first | exact HB.out | apply below_alloc | apply pw_below_drewN | apply below_drew1) | exact HB.out)))); have n2_ := Aside0.mk (below_step (by repeat (first | (with_reducible first | exact HB.out | apply below_alloc | apply pw_below_drewN | apply below_drew1) | exact HB.out)) hb); clear HO245; clear HB; have HO245 := n0_; have HO249 := n1_; have HB := n2_; clear n0_ n1_ n2_; (try clear hb); (try clear hb2); (try clear hk); (try clear hi); (try clear ho0)))
      have H := HC10.out
      clear HC10
      replace H := Option.bind_eq_some_iff.mp H
      obtain ⟨t250, A140, H⟩ := H
      replace H : ((lombardref11_Same.f k t250 t246).bind fun t253 => (if t253 = true then (some (t243 == t247)) else (some false))) = some r := H
      have A14 := Aside0.mk A140
      clear A140
      replace H := Option.bind_eq_some_iff.mp H
      obtain ⟨t253, A150, H⟩ := H
      replace H : (if t253 = true then (some (t243 == t247)) else (some false)) = some r := H
      have A15 := Aside0.mk A150
      clear A150
      by_cases c16 : t253 = true
      · subst c16
        have H1 : (some (t243 == t247)) = some r := by rw [if_pos rfl] at H; exact H
        clear H
        have H := H1
        clear H1
        obtain rfl := Option.some.inj H
        obtain ⟨Ao17, co17, eo17⟩ := Kd.R_slice HO245.out
        subst eo17
        go_wp2_with (first | ((with_reducible refine gate_callee (f := 15) rfl ?_); refine goesL_ (some 31) rfl rfl Try.func15 (by kernel_rfl) rfl #[.slice Ao17 t242.length co17] rfl (by (try simp only [List.map_toArray, List.map_cons, List.map_nil]); first | done | rfl | (simp only [List.length_drop, List.length_take]; rfl)) ?_; (with_reducible refine (lombardlaw11_from.calls k _ _ t242 t250 _ ?side1 ?side2 A14.out).mono ?_); (case side1 => repeat (first | exact (Kd.R_reads' HO245.out).2.2 | (with_reducible refine Kd.C_alloc ?_ _) | (with_reducible refine Kd.C_drewN ?_ _) | (with_reducible refine Kd.C_drew ?_))); (case side2 => exact (Kd.R_reads' HO245.out).2.1); rintro e w18 ⟨v251, rfl, ho0, hb⟩; refine ⟨_, rfl, ?_⟩; have n0_ := Aside0.mk (Kd.R_below (by (with_reducible repeat (first | apply Kd.R_alloc | apply Kd.R_drewN | apply Kd.R_drew)); exact HO245.out) hb); have n1_ := Aside0.mk (Kd.R_elder' (by (with_reducible repeat (first | apply Kd.R_alloc | apply Kd.R_drewN | apply Kd.R_drew)); exact HO249.out) (Kd.R_base ho0) hb); have n2_ := Aside0.mk (Kd.R_lower (Kd.R_new' ho0 (Kd.R_lt (by (with_reducible repeat (first | apply Kd.R_alloc | apply Kd.R_drewN | apply Kd.R_drew)); exact HO249.out))) (below_size (by repeat (first | (with_reducible first | exact HB.out | apply below_alloc | apply pw_below_drewN | apply below_drew1) | exact HB.out)))); have n3_ := Aside0.mk (below_step (by repeat (first | (with_reducible first | exact HB.out | apply below_alloc | apply pw_below_drewN | apply below_drew1) | exact HB.out)) hb); clear HO245; clear HO249; clear HB; have HO245 := n0_; have HO249 := n1_; have HO252 := n2_; have HB := n3_; clear n0_ n1_ n2_ n3_; (try clear hb); (try clear hb2); (try clear hk); (try clear hi); (try clear ho0); obtain ⟨Ao19, co19, eo19⟩ := Kd.R_slice HO252.out; subst eo19; obtain ⟨Ao20, co20, eo20⟩ := Kd.R_slice HO249.out; subst eo20) | ((with_reducible refine gate_callee (f := 14) rfl ?_); refine goesL_ (some 33) rfl rfl Try.func14 (by kernel_rfl) rfl #[.slice Ao19 t250.length co19, .slice Ao20 t246.length co20] rfl (by (try simp only [List.map_toArray, List.map_cons, List.map_nil]); first | done | rfl | (simp only [List.length_drop, List.length_take]; rfl)) ?_; (with_reducible refine (lombardref11_Same.calls k _ _ t250 _ _ t246 true _ ?side1 ?side2 ?side3 ?side4 A15.out).mono ?_); (case side1 => repeat (first | exact (Kd.R_reads' HO252.out).2.2 | (with_reducible refine Kd.C_alloc ?_ _) | (with_reducible refine Kd.C_drewN ?_ _) | (with_reducible refine Kd.C_drew ?_))); (case side2 => exact (Kd.R_reads' HO252.out).2.1); (case side3 => repeat (first | exact (Kd.R_reads' HO249.out).2.2 | (with_reducible refine Kd.C_alloc ?_ _) | (with_reducible refine Kd.C_drewN ?_ _) | (with_reducible refine Kd.C_drew ?_))); (case side4 => exact (Kd.R_reads' HO249.out).2.1); rintro e w' ⟨rfl, ⟨nd, rfl⟩⟩; refine ⟨_, rfl, ?_⟩))
        go_ret
        exact ⟨by first | rfl | (simp [errW_none, errW_some] <;> rfl) | (simp [*, errW_none, errW_some] <;> rfl), by repeat (first | (with_reducible first | exact HB.out | apply below_alloc | apply pw_below_drewN | apply below_drew1) | exact HB.out)⟩
      · replace c16 := Bool.eq_false_iff.mpr c16
        subst c16
        have H1 : (some false) = some r := by rw [if_neg (show ¬ (false = true) by decide)] at H; exact H
        clear H
        have H := H1
        clear H1
        obtain rfl := Option.some.inj H
        obtain ⟨Ao21, co21, eo21⟩ := Kd.R_slice HO245.out
        subst eo21
        go_wp2_with (first | ((with_reducible refine gate_callee (f := 15) rfl ?_); refine goesL_ (some 31) rfl rfl Try.func15 (by kernel_rfl) rfl #[.slice Ao21 t242.length co21] rfl (by (try simp only [List.map_toArray, List.map_cons, List.map_nil]); first | done | rfl | (simp only [List.length_drop, List.length_take]; rfl)) ?_; (with_reducible refine (lombardlaw11_from.calls k _ _ t242 t250 _ ?side1 ?side2 A14.out).mono ?_); (case side1 => repeat (first | exact (Kd.R_reads' HO245.out).2.2 | (with_reducible refine Kd.C_alloc ?_ _) | (with_reducible refine Kd.C_drewN ?_ _) | (with_reducible refine Kd.C_drew ?_))); (case side2 => exact (Kd.R_reads' HO245.out).2.1); rintro e w22 ⟨v251, rfl, ho0, hb⟩; refine ⟨_, rfl, ?_⟩; have n0_ := Aside0.mk (Kd.R_below (by (with_reducible repeat (first | apply Kd.R_alloc | apply Kd.R_drewN | apply Kd.R_drew)); exact HO245.out) hb); have n1_ := Aside0.mk (Kd.R_elder' (by (with_reducible repeat (first | apply Kd.R_alloc | apply Kd.R_drewN | apply Kd.R_drew)); exact HO249.out) (Kd.R_base ho0) hb); have n2_ := Aside0.mk (Kd.R_lower (Kd.R_new' ho0 (Kd.R_lt (by (with_reducible repeat (first | apply Kd.R_alloc | apply Kd.R_drewN | apply Kd.R_drew)); exact HO249.out))) (below_size (by repeat (first | (with_reducible first | exact HB.out | apply below_alloc | apply pw_below_drewN | apply below_drew1) | exact HB.out)))); have n3_ := Aside0.mk (below_step (by repeat (first | (with_reducible first | exact HB.out | apply below_alloc | apply pw_below_drewN | apply below_drew1) | exact HB.out)) hb); clear HO245; clear HO249; clear HB; have HO245 := n0_; have HO249 := n1_; have HO252 := n2_; have HB := n3_; clear n0_ n1_ n2_ n3_; (try clear hb); (try clear hb2); (try clear hk); (try clear hi); (try clear ho0); obtain ⟨Ao23, co23, eo23⟩ := Kd.R_slice HO252.out; subst eo23; obtain ⟨Ao24, co24, eo24⟩ := Kd.R_slice HO249.out; subst eo24) | ((with_reducible refine gate_callee (f := 14) rfl ?_); refine goesL_ (some 33) rfl rfl Try.func14 (by kernel_rfl) rfl #[.slice Ao23 t250.length co23, .slice Ao24 t246.length co24] rfl (by (try simp only [List.map_toArray, List.map_cons, List.map_nil]); first | done | rfl | (simp only [List.length_drop, List.length_take]; rfl)) ?_; (with_reducible refine (lombardref11_Same.calls k _ _ t250 _ _ t246 false _ ?side1 ?side2 ?side3 ?side4 A15.out).mono ?_); (case side1 => repeat (first | exact (Kd.R_reads' HO252.out).2.2 | (with_reducible refine Kd.C_alloc ?_ _) | (with_reducible refine Kd.C_drewN ?_ _) | (with_reducible refine Kd.C_drew ?_))); (case side2 => exact (Kd.R_reads' HO252.out).2.1); (case side3 => repeat (first | exact (Kd.R_reads' HO249.out).2.2 | (with_reducible refine Kd.C_alloc ?_ _) | (with_reducible refine Kd.C_drewN ?_ _) | (with_reducible refine Kd.C_drew ?_))); (case side4 => exact (Kd.R_reads' HO249.out).2.1); rintro e w' ⟨rfl, ⟨nd, rfl⟩⟩; refine ⟨_, rfl, ?_⟩))
        go_ret
        exact ⟨by first | rfl | (simp [errW_none, errW_some] <;> rfl) | (simp [*, errW_none, errW_some] <;> rfl), by repeat (first | (with_reducible first | exact HB.out | apply below_alloc | apply pw_below_drewN | apply below_drew1) | exact HB.out)⟩
  · replace c5 := Bool.eq_false_iff.mpr c5
    subst c5
    have H1 : (some false) = some r := by rw [if_neg (show ¬ (false = true) by decide)] at H; exact H
    clear H
    have H := H1
    clear H1
    obtain rfl := Option.some.inj H
    go_enter Try.func3, Try.ntmps3
    go_wp2_with (first | ((with_reducible refine gate_callee (f := 11) rfl ?_); refine goesL_ (some 11) rfl rfl Try.func11 (by kernel_rfl) rfl #[] rfl (by (try simp only [List.map_toArray, List.map_cons, List.map_nil]); first | done | rfl | (simp only [List.length_drop, List.length_take]; rfl)) ?_; (with_reducible refine (lombardlaw11_alive.calls k  false _ A4.out).mono ?_); rintro e w25 ⟨rfl, hb⟩; refine ⟨_, rfl, ?_⟩; have n0_ := Aside0.mk (below_step (by repeat (first | (with_reducible first | exact HB.out | apply below_alloc | apply pw_below_drewN | apply below_drew1) | exact HB.out)) hb); clear HB; have HB := n0_; clear n0_; (try clear hb); (try clear hb2); (try clear hk); (try clear hi)))
    go_ret
    exact ⟨by first | rfl | (simp [errW_none, errW_some] <;> rfl) | (simp [*, errW_none, errW_some] <;> rfl), by repeat (first | (with_reducible first | exact HB.out | apply below_alloc | apply pw_below_drewN | apply below_drew1) | exact HB.out)⟩

/-- THE ONE PURE STATEMENT of lombardlaw11_TableRolls: yours. -/
def lombardlaw11_TableRolls.Pure : Prop := ∀ (a0 : Int) (l1 : List Int) (a2 : Int), (Lit.int .i64 a0).wf = true → l1.length ≤ maxLen → l1.length * 8 ≤ 140737488351232 → (∀ x ∈ l1, (Lit.int .i64 x).wf = true) → (Lit.int .i64 a2).wf = true → ∃ k, lombardlaw11_TableRolls.f k a0 l1 a2 = some true
theorem lombardlaw11_TableRolls.walk (P : lombardlaw11_TableRolls.Pure) (a0 : Int) (a1 : Option Addr) (len1 cap1 : Nat) (z1 : List Int) (a2 : Int) (w : World) (w0 : (Lit.int .i64 a0).wf = true) (w1 : (a1 = none ∧ len1 = 0 ∧ cap1 = 0 ∧ z1 = []) ∨ ∃ x, a1 = some x ∧ len1 ≤ cap1 ∧ cap1 ≤ maxLen ∧ z1.length = cap1 ∧ (∀ i, i < z1.length → w.cell? (x.add i) = some (.int .i64 (z1.getD i 0))) ∧ ∀ n ∈ z1, (Lit.int .i64 n).wf = true) (y1 : len1 * 8 ≤ 140737488351232) (w2 : (Lit.int .i64 a2).wf = true) :
    Calls Try.prog 3 #[.int .i64 a0, .slice a1 len1 cap1, .int .i64 a2] w fun e w' => e = .returned (.bool true) ∧ Below w.heap.size w w' := by
  obtain ⟨l1, rfl, hr1, hm1, hw1, hc1⟩ := ReadsInt.ofRowC w1
  obtain ⟨k, h⟩ := P a0 l1 a2 w0 hm1 y1 hw1 w2
  refine (lombardlaw11_TableRolls.calls k a0 _ _ l1 a2 true w (Kd.C_of_reads (d := (0 : Int)) (h1 := fun _ => rfl) hr1) hc1 h).mono ?_
  rintro e w' ⟨rfl, hd⟩
  exact ⟨rfl, hd⟩

end Go.Proofs.Ytalnlphinlfenaa.S
end

section
namespace Go.Proofs.Ytalnlphinlfenaa.Rnd
set_option linter.unusedVariables false
set_option linter.unusedSimpArgs false

/-- A over b rounded to the nearer whole number, to the even one of two; b above 0. -/
def near (A b : Int) : Int := if 2 * (A % b) > b ∨ 2 * (A % b) = b ∧ (A / b) % 2 = 1 then A / b + 1 else A / b

theorem div_split (A b : Int) (hb : 0 < b) : A = b * (A / b) + A % b ∧ 0 ≤ A % b ∧ A % b < b :=
  ⟨(Int.mul_ediv_add_emod A b).symm, Int.emod_nonneg A (by omega), Int.emod_lt_of_pos A hb⟩

theorem near_spec {A b : Int} (hb : 0 < b) : 2 * (b * near A b) ≤ 2 * A + b ∧ 2 * A ≤ 2 * (b * near A b) + b ∧
    (2 * (b * near A b) = 2 * A + b ∨ 2 * A = 2 * (b * near A b) + b → near A b % 2 = 0) := by
  obtain ⟨h, h0, h1⟩ := div_split A b hb
  unfold near
  generalize A % b = r at *
  generalize A / b = q at *
  split
  · rw [Int.mul_add, Int.mul_one]
    generalize b * q = m at *
    refine ⟨by omega, by omega, by omega⟩
  · generalize b * q = m at *
    refine ⟨by omega, by omega, by omega⟩

theorem mul_step {b N M : Int} (hb : 0 < b) (h : N < M) : b * N + b ≤ b * M := by
  have : b * (N + 1) ≤ b * M := Int.mul_le_mul_of_nonneg_left (by omega) (by omega)
  rw [Int.mul_add, Int.mul_one] at this
  exact this

theorem near_mono {A A' b : Int} (hb : 0 < b) (h : A ≤ A') : near A b ≤ near A' b := by
  obtain ⟨a1, a2, a3⟩ := near_spec (A := A) hb
  obtain ⟨b1, b2, b3⟩ := near_spec (A := A') hb
  generalize near A b = N at *
  generalize near A' b = M at *
  by_cases c : N ≤ M
  · exact c
  have s := mul_step hb (show M < N by omega)
  have s2 : M + 2 ≤ N → b * M + 2 * b ≤ b * N := fun h => by
    have := mul_step hb (show M < M + 1 by omega)
    have := mul_step hb (show M + 1 < N by omega)
    omega
  by_cases d : M + 2 ≤ N
  · have := s2 d
    omega
  have e : N = M + 1 := by omega
  subst e
  rw [Int.mul_add, Int.mul_one] at *
  omega

theorem near_uniq {A b N : Int} (hb : 0 < b) (h1 : 2 * (b * N) ≤ 2 * A + b) (h2 : 2 * A ≤ 2 * (b * N) + b)
    (h3 : 2 * (b * N) = 2 * A + b ∨ 2 * A = 2 * (b * N) + b → N % 2 = 0) : near A b = N := by
  obtain ⟨a1, a2, a3⟩ := near_spec (A := A) hb
  generalize near A b = M at *
  rcases Int.lt_trichotomy M N with c | c | c
  · have s := mul_step hb c
    by_cases d : M + 2 ≤ N
    · have := mul_step hb (show M < M + 1 by omega)
      have := mul_step hb (show M + 1 < N by omega)
      omega
    have e : N = M + 1 := by omega
    subst e
    rw [Int.mul_add, Int.mul_one] at *
    omega
  · exact c
  · have s := mul_step hb c
    by_cases d : N + 2 ≤ M
    · have := mul_step hb (show N < N + 1 by omega)
      have := mul_step hb (show N + 1 < M by omega)
      omega
    have e : M = N + 1 := by omega
    subst e
    rw [Int.mul_add, Int.mul_one] at *
    omega

theorem near_neg {A b : Int} (hb : 0 < b) : near (-A) b = -near A b := by
  obtain ⟨a1, a2, a3⟩ := near_spec (A := A) hb
  have e : b * -near A b = -(b * near A b) := Int.mul_neg _ _
  refine near_uniq hb ?_ ?_ ?_ <;> rw [e] <;> omega

theorem near_exact {b N : Int} (hb : 0 < b) : near (b * N) b = N := near_uniq hb (by omega) (by omega) (by omega)

/-- of an amount of 0 or more -/
theorem near_nn {A b : Int} (hb : 0 < b) (h : 0 ≤ A) : 0 ≤ near A b := by
  have := near_mono hb h
  have e : near (b * 0) b = 0 := near_exact hb
  rw [Int.mul_zero] at e
  omega

/-- the quotient: way 0 downwards, way 1 to the nearer one -/
def rnd (A b way : Int) : Int := if way = 0 then (if b < 0 then (-A) / (-b) else A / b) else (if b < 0 then near (-A) (-b) else near A b)

theorem floor_neg {X b : Int} (hb : 0 < b) : (-X) / b = -(X / b + if X % b > 0 then 1 else 0) := by
  obtain ⟨h, h0, h1⟩ := div_split X b hb
  obtain ⟨g, g0, g1⟩ := div_split (-X) b hb
  generalize X % b = r at *
  generalize X / b = q at *
  generalize (-X) % b = r' at *
  generalize (-X) / b = q' at *
  -- b q' + r' = -(b q + r)
  split
  · rcases Int.lt_trichotomy q' (-(q + 1)) with c | c | c
    · have := mul_step hb c
      rw [Int.mul_neg, Int.mul_add, Int.mul_one] at this
      omega
    · omega
    · have := mul_step hb c
      rw [Int.mul_neg, Int.mul_add, Int.mul_one] at this
      omega
  · rcases Int.lt_trichotomy q' (-q) with c | c | c
    · have := mul_step hb c
      rw [Int.mul_neg] at this
      omega
    · omega
    · have := mul_step hb c
      rw [Int.mul_neg] at this
      omega

/-- whether the size of a quotient is rounded up -/
def upf (way X y : Int) (less : Bool) : Bool := if way = 0 then less && decide (X % y > 0) else decide (2 * (X % y) > y ∨ 2 * (X % y) = y ∧ (X / y) % 2 = 1)
/-- by sizes and signs, as the code does it -/
theorem rnd_sizes {A b way X y : Int} (hw : way = 0 ∨ way = 1) (hb : b ≠ 0) (hX : X = if A < 0 then -A else A) (hy : y = if b < 0 then -b else b) :
    rnd A b way = if (decide (A < 0) != decide (b < 0)) = true then -(X / y + (if upf way X y (decide (A < 0) != decide (b < 0)) = true then 1 else 0)) else X / y + (if upf way X y (decide (A < 0) != decide (b < 0)) = true then 1 else 0) := by
  unfold upf
  have hy0 : 0 < y := by subst hy; split <;> omega
  have hX0 : 0 ≤ X := by subst hX; split <;> omega
  rcases hw with rfl | rfl
  · unfold rnd
    rw [if_pos rfl]
    simp only [if_true]
    by_cases c : A < 0
    · rw [if_pos c] at hX
      by_cases d : b < 0
      · rw [if_pos d] at hy ⊢
        rw [decide_eq_true c, decide_eq_true d, ← hX, ← hy]
        simp
      · rw [if_neg d] at hy ⊢
        rw [decide_eq_true c, decide_eq_false d, ← hy]
        have : A = -X := by omega
        rw [this, floor_neg hy0]
        simp
    · rw [if_neg c] at hX
      by_cases d : b < 0
      · rw [if_pos d] at hy ⊢
        rw [decide_eq_false c, decide_eq_true d, ← hX, ← hy, floor_neg hy0]
        simp
      · rw [if_neg d] at hy ⊢
        rw [decide_eq_false c, decide_eq_false d, ← hX, ← hy]
        simp
  · unfold rnd
    rw [if_neg (by omega)]
    simp only [show ((1 : Int) = 0) = False by simp, if_false]
    have hn : (X / y + if decide (2 * (X % y) > y ∨ 2 * (X % y) = y ∧ X / y % 2 = 1) = true then 1 else 0) = near X y := by
      unfold near
      simp only [decide_eq_true_eq]
      split <;> omega
    rw [hn]
    by_cases c : A < 0
    · rw [if_pos c] at hX
      by_cases d : b < 0
      · rw [if_pos d] at hy ⊢
        rw [decide_eq_true c, decide_eq_true d, ← hX, ← hy]
        simp
      · rw [if_neg d] at hy ⊢
        rw [decide_eq_true c, decide_eq_false d, ← hy]
        have : A = -X := by omega
        rw [this, near_neg hy0]
        simp
    · rw [if_neg c] at hX
      by_cases d : b < 0
      · rw [if_pos d] at hy ⊢
        rw [decide_eq_false c, decide_eq_true d, ← hX, ← hy, near_neg hy0]
        simp
      · rw [if_neg d] at hy ⊢
        rw [decide_eq_false c, decide_eq_false d, ← hX, ← hy]
        simp
end Go.Proofs.Ytalnlphinlfenaa.Rnd
end

section
namespace Go.Proofs.Ytalnlphinlfenaa.Knuth
set_option linter.unusedVariables false
set_option linter.unusedSimpArgs false

theorem ltge (a b : Int) : a < b ∨ b ≤ a := by omega
/-- A quotient by its rest. -/
theorem quot_uniq {A b q r : Int} (hb : 0 < b) (h : A = b * q + r) (h0 : 0 ≤ r) (h1 : r < b) : A / b = q ∧ A % b = r := by
  have := Int.mul_ediv_add_emod A b
  have p0 := Int.emod_nonneg A (show b ≠ 0 by omega)
  have p1 := Int.emod_lt_of_pos A hb
  generalize A / b = q' at *
  generalize A % b = r' at *
  have e : b * (q' - q) = r - r' := by rw [Int.mul_sub]; omega
  have k : q' - q = 0 := by
    rcases Int.lt_trichotomy (q' - q) 0 with c | c | c
    · have : b * (q' - q) ≤ b * (-1) := Int.mul_le_mul_of_nonneg_left (by omega) (by omega)
      omega
    · exact c
    · have : b * 1 ≤ b * (q' - q) := Int.mul_le_mul_of_nonneg_left (by omega) (by omega)
      omega
  rw [k, Int.mul_zero] at e
  omega

/-- the first guess: no less than the quotient, and at most one beyond a digit -/
theorem guess {Y y1 y0 U u : Int} (hY : Y = y1 * 4294967296 + y0) (h1 : 2147483648 ≤ y1) (h00 : 0 ≤ y0) (h01 : y0 < 4294967296)
    (hU0 : 0 ≤ U) (hU : U < Y) (hu0 : 0 ≤ u) (hu : u < 4294967296) :
    (U * 4294967296 + u) / Y ≤ U / y1 ∧ U / y1 ≤ 4294967297 ∧ 0 ≤ (U * 4294967296 + u) / Y ∧ (U * 4294967296 + u) / Y ≤ 4294967295 := by
  have hy : 0 < Y := by omega
  have a := Int.mul_ediv_add_emod U y1
  have a0 := Int.emod_nonneg U (show y1 ≠ 0 by omega)
  have a1 := Int.emod_lt_of_pos U (show 0 < y1 by omega)
  have b := Int.mul_ediv_add_emod (U * 4294967296 + u) Y
  have b0 := Int.emod_nonneg (U * 4294967296 + u) (show Y ≠ 0 by omega)
  have b1 := Int.emod_lt_of_pos (U * 4294967296 + u) hy
  generalize U / y1 = g at *
  generalize U % y1 = r at *
  generalize (U * 4294967296 + u) / Y = q at *
  generalize (U * 4294967296 + u) % Y = t at *
  have q0 : 0 ≤ q := by
    rcases ltge q 0 with c | c
    · have : Y * q ≤ Y * (-1) := Int.mul_le_mul_of_nonneg_left (by omega) (by omega)
      omega
    · exact c
  have q1 : q ≤ 4294967295 := by
    rcases ltge 4294967295 q with c | c
    · have : Y * 4294967296 ≤ Y * q := Int.mul_le_mul_of_nonneg_left (by omega) (by omega)
      omega
    · exact c
  refine ⟨?_, ?_, q0, q1⟩
  · rcases ltge g q with c | c
    · have e1 : y1 * (g + 1) ≤ y1 * q := Int.mul_le_mul_of_nonneg_left (by omega) (by omega)
      have e2 : 0 ≤ y0 * q := Int.mul_nonneg h00 q0
      have e3 : Y * q = 4294967296 * (y1 * q) + y0 * q := by rw [hY]; grind
      rw [Int.mul_add, Int.mul_one] at e1
      omega
    · exact c
  · rcases ltge 4294967297 g with c | c
    · have e1 : y1 * 4294967298 ≤ y1 * g := Int.mul_le_mul_of_nonneg_left (by omega) (by omega)
      omega
    · exact c

/-- the guess is right if it asks for no more than there is -/
theorem right {Y N q g : Int} (hy : 0 < Y) (hq : q = N / Y) (h : q ≤ g) (h1 : g * Y ≤ N) : g = q := by
  have b := Int.mul_ediv_add_emod N Y
  have b1 := Int.emod_lt_of_pos N hy
  rw [← hq] at b
  rcases ltge q g with c | c
  · have e1 : Y * (q + 1) ≤ Y * g := Int.mul_le_mul_of_nonneg_left (by omega) (by omega)
    rw [Int.mul_add, Int.mul_one] at e1
    rw [Int.mul_comm] at h1
    omega
  · omega

theorem wrong {Y N q g : Int} (hy : 0 < Y) (hq : q = N / Y) (h1 : N < g * Y) : q < g := by
  have b := Int.mul_ediv_add_emod N Y
  have b0 := Int.emod_nonneg N (show Y ≠ 0 by omega)
  rw [← hq] at b
  rcases ltge q g with c | c
  · exact c
  · have e1 : Y * g ≤ Y * q := Int.mul_le_mul_of_nonneg_left (by omega) (by omega)
    rw [Int.mul_comm] at h1
    omega

/-- what is asked of a guess, by its parts -/
theorem parts {Y y1 y0 U u g r : Int} (hY : Y = y1 * 4294967296 + y0) (hr : g * y1 + r = U) : (g * Y ≤ U * 4294967296 + u ↔ g * y0 ≤ 4294967296 * r + u) := by
  have : g * Y = 4294967296 * (g * y1) + g * y0 := by rw [hY]; grind
  omega

/-- two digits, and the rest moved back -/
theorem whole {X y S Q R : Int} (hy : 0 < y) (hS : 0 < S) (h : X * S = (y * S) * Q + R) (h0 : 0 ≤ R) (h1 : R < y * S) : X / y = Q ∧ X % y = R / S := by
  have e : R = S * (X - y * Q) := by grind
  have f : R / S = X - y * Q := by rw [e]; exact Int.mul_ediv_cancel_left _ (by omega)
  have g0 : 0 ≤ X - y * Q := by
    rcases ltge (X - y * Q) 0 with c | c
    · have : S * (X - y * Q) ≤ S * (-1) := Int.mul_le_mul_of_nonneg_left (by omega) (by omega)
      omega
    · exact c
  have g1 : X - y * Q < y := by
    rcases ltge (X - y * Q) y with c | c
    · exact c
    · have : S * y ≤ S * (X - y * Q) := Int.mul_le_mul_of_nonneg_left (by omega) (by omega)
      rw [Int.mul_comm S y] at this
      omega
  have := quot_uniq hy (show X = y * Q + (X - y * Q) by omega) g0 g1
  exact ⟨this.1, this.2.trans f.symm⟩
end Go.Proofs.Ytalnlphinlfenaa.Knuth
end

section
namespace Go.Proofs.Ytalnlphinlfenaa.XNum
set_option linter.unusedVariables false
set_option linter.unusedSimpArgs false
open Go.RowKit Go.Proofs.YtalnlphinlfenaaW.PrintWords

theorem w64 {n : Int} (h0 : -9223372036854775808 ≤ n) (h1 : n ≤ 9223372036854775807) : wrap64 n = n := by
  unfold wrap64
  omega
theorem wf64 {a : Int} : (Lit.int .i64 a).wf = true ↔ -9223372036854775808 ≤ a ∧ a ≤ 9223372036854775807 := by
  simp only [Lit.wf, IntKind.min, IntKind.max, IntKind.signed, IntKind.bits, Bool.and_eq_true, decide_eq_true_eq, if_true]
  omega
theorem wfu64 {a : Int} : (Lit.int .u64 a).wf = true ↔ 0 ≤ a ∧ a ≤ 18446744073709551615 := by
  simp only [Lit.wf, IntKind.min, IntKind.max, IntKind.signed, IntKind.bits, Bool.and_eq_true, decide_eq_true_eq]
  simp
theorem wfu8 {a : Int} : (Lit.int .u8 a).wf = true ↔ 0 ≤ a ∧ a ≤ 255 := by
  simp only [Lit.wf, IntKind.min, IntKind.max, IntKind.signed, IntKind.bits, Bool.and_eq_true, decide_eq_true_eq]
  simp
theorem wfu16 {a : Int} : (Lit.int .u16 a).wf = true ↔ 0 ≤ a ∧ a ≤ 65535 := by
  simp only [Lit.wf, IntKind.min, IntKind.max, IntKind.signed, IntKind.bits, Bool.and_eq_true, decide_eq_true_eq]
  simp
theorem wfu32 {a : Int} : (Lit.int .u32 a).wf = true ↔ 0 ≤ a ∧ a ≤ 4294967295 := by
  simp only [Lit.wf, IntKind.min, IntKind.max, IntKind.signed, IntKind.bits, Bool.and_eq_true, decide_eq_true_eq]
  simp
theorem tm_nn {a k : Int} (h : 0 ≤ a) : Int.tmod a k = a % k := Int.tmod_eq_emod_of_nonneg h
theorem td_nn {a k : Int} (h : 0 ≤ a) : Int.tdiv a k = a / k := Int.tdiv_eq_ediv_of_nonneg h
theorem tm_neg {a k : Int} (h : a < 0) : Int.tmod a k = -((-a) % k) := by
  have h1 := Int.neg_tmod (-a) k
  rw [Int.neg_neg, tm_nn (a := -a) (by omega)] at h1
  exact h1
theorem td_neg {a k : Int} (h : a < 0) : Int.tdiv a k = -((-a) / k) := by
  have h1 := Int.neg_tdiv (-a) k
  rw [Int.neg_neg, td_nn (a := -a) (by omega)] at h1
  exact h1
theorem tm_zero {a k : Int} : Int.tmod a k = 0 ↔ a % k = 0 := by
  rw [← Int.dvd_iff_tmod_eq_zero, ← Int.dvd_iff_emod_eq_zero]
theorem tm_eq {a k : Int} : Int.tmod a k = if 0 ≤ a then a % k else -((-a) % k) := by
  split
  · exact tm_nn (by assumption)
  · exact tm_neg (by omega)
theorem td_eq {a k : Int} : Int.tdiv a k = if 0 ≤ a then a / k else -((-a) / k) := by
  split
  · exact td_nn (by assumption)
  · exact td_neg (by omega)

/-- From so many rounds on a call answers. -/
theorem ev_at {α : Type} {g : Nat → Option α} {r : α} (hg : ∀ k, LeO (g k) (g (k + 1))) {k : Nat} (h : g k = some r) : ∀ k', k ≤ k' → g k' = some r := fun _ hk => at_rounds hg hk h
theorem bind_some' {α β : Type} {o : Option α} {a : α} {f : α → Option β} (h : o = some a) : o.bind f = f a := by rw [h]; rfl
end Go.Proofs.Ytalnlphinlfenaa.XNum
end

section
namespace Go.Proofs.Ytalnlphinlfenaa.XBits
set_option linter.unusedVariables false
set_option linter.unusedSimpArgs false
open Go.RowKit Go.Proofs.Ytalnlphinlfenaa.S Go.Proofs.Ytalnlphinlfenaa.XNum Go.Proofs.Ytalnlphinlfenaa.Knuth Go.Proofs.YtalnlphinlfenaaW.PrintWords

theorem wu (n : Int) : IntKind.u64.wrap n = n % 18446744073709551616 := IntKind.wrap_u64 n
theorem wu_id {n : Int} (h0 : 0 ≤ n) (h1 : n < 18446744073709551616) : IntKind.u64.wrap n = n := by rw [wu]; omega
theorem and32 {x : Int} (h0 : 0 ≤ x) (h1 : x < 18446744073709551616) : Go.bits .and .u64 x 4294967295 = x % 4294967296 := bits_mask .u64 64 (by decide) wraps_u64 32 (by decide) x h0 h1

theorem mul64 {x y : Int} (hx : 0 ≤ x) (hx1 : x < 18446744073709551616) (hy : 0 ≤ y) (hy1 : y < 18446744073709551616) :
    math_bits_Mul64.f x y = some (x * y / 18446744073709551616, x * y % 18446744073709551616) := by
  unfold math_bits_Mul64.f
  rw [and32 hx hx1, and32 hy hy1]
  simp only [wu]
  rw [and32 (by omega) (by omega)]
  obtain ⟨x, rfl⟩ := Int.eq_ofNat_of_zero_le hx
  obtain ⟨y, rfl⟩ := Int.eq_ofNat_of_zero_le hy
  obtain ⟨a, b, c, d⟩ := Go.Lib.mul64_hi x y (by omega) (by omega)
  have d' : ((x * y / 18446744073709551616 : Nat) : Int) = (x : Int) * y / 18446744073709551616 := by rw [Int.natCast_ediv, Int.natCast_mul]; rfl
  rw [← d', ← d]
  have e1 : ((x : Int) / 4294967296) * ((y : Int) / 4294967296) = ((x / 4294967296 * (y / 4294967296) : Nat) : Int) := by rw [Int.natCast_mul, Int.natCast_ediv, Int.natCast_ediv]; rfl
  have e2 : ((x : Int) / 4294967296) * ((y : Int) % 4294967296) = ((x / 4294967296 * (y % 4294967296) : Nat) : Int) := by rw [Int.natCast_mul, Int.natCast_ediv, Int.natCast_emod]; rfl
  have e3 : ((x : Int) % 4294967296) * ((y : Int) / 4294967296) = ((x % 4294967296 * (y / 4294967296) : Nat) : Int) := by rw [Int.natCast_mul, Int.natCast_emod, Int.natCast_ediv]; rfl
  have e4 : ((x : Int) % 4294967296) * ((y : Int) % 4294967296) = ((x % 4294967296 * (y % 4294967296) : Nat) : Int) := by rw [Int.natCast_mul, Int.natCast_emod, Int.natCast_emod]; rfl
  rw [e1, e2, e3, e4]
  have l1 := Go.Lib.half_mul_le (a := x / 4294967296) (b := y / 4294967296) (by omega) (by omega)
  have l2 := Go.Lib.half_mul_le (a := x / 4294967296) (b := y % 4294967296) (by omega) (by omega)
  have l3 := Go.Lib.half_mul_le (a := x % 4294967296) (b := y / 4294967296) (by omega) (by omega)
  have l4 := Go.Lib.half_mul_le (a := x % 4294967296) (b := y % 4294967296) (by omega) (by omega)
  have l5 : x * y / 18446744073709551616 < 18446744073709551616 := by
    have : x * y < 18446744073709551616 * 18446744073709551616 := Nat.mul_lt_mul_of_lt_of_lt (by omega) (by omega)
    omega
  generalize x / 4294967296 * (y / 4294967296) = p1 at *
  generalize x / 4294967296 * (y % 4294967296) = p2 at *
  generalize x % 4294967296 * (y / 4294967296) = p3 at *
  generalize x % 4294967296 * (y % 4294967296) = p4 at *
  generalize x * y / 18446744073709551616 = p5 at *
  congr 2
  omega

/-- How many bits a byte has. -/
def len8 (i : Int) : Int := if i < 1 then 0 else if i < 2 then 1 else if i < 4 then 2 else if i < 8 then 3 else if i < 16 then 4 else if i < 32 then 5 else if i < 64 then 6 else if i < 128 then 7 else 8
theorem tab_fin : ∀ i : Fin 256, bt (⟨#[0, 1, 2, 2, 3, 3, 3, 3, 4, 4, 4, 4, 4, 4, 4, 4, 5, 5, 5, 5, 5, 5, 5, 5, 5, 5, 5, 5, 5, 5, 5, 5, 6, 6, 6, 6, 6, 6, 6, 6, 6, 6, 6, 6, 6, 6, 6, 6, 6, 6, 6, 6, 6, 6, 6, 6, 6, 6, 6, 6, 6, 6, 6, 6, 7, 7, 7, 7, 7, 7, 7, 7, 7, 7, 7, 7, 7, 7, 7, 7, 7, 7, 7, 7, 7, 7, 7, 7, 7, 7, 7, 7, 7, 7, 7, 7, 7, 7, 7, 7, 7, 7, 7, 7, 7, 7, 7, 7, 7, 7, 7, 7, 7, 7, 7, 7, 7, 7, 7, 7, 7, 7, 7, 7, 7, 7, 7, 7, 8, 8, 8, 8, 8, 8, 8, 8, 8, 8, 8, 8, 8, 8, 8, 8, 8, 8, 8, 8, 8, 8, 8, 8, 8, 8, 8, 8, 8, 8, 8, 8, 8, 8, 8, 8, 8, 8, 8, 8, 8, 8, 8, 8, 8, 8, 8, 8, 8, 8, 8, 8, 8, 8, 8, 8, 8, 8, 8, 8, 8, 8, 8, 8, 8, 8, 8, 8, 8, 8, 8, 8, 8, 8, 8, 8, 8, 8, 8, 8, 8, 8, 8, 8, 8, 8, 8, 8, 8, 8, 8, 8, 8, 8, 8, 8, 8, 8, 8, 8, 8, 8, 8, 8, 8, 8, 8, 8, 8, 8, 8, 8, 8, 8, 8, 8, 8, 8, 8, 8, 8, 8, 8, 8, 8, 8, 8, 8]⟩ : ByteArray) (i.val : Int) = len8 (i.val : Int) := by decide +kernel
theorem tab {i : Int} (h0 : 0 ≤ i) (h1 : i < 256) : bt (⟨#[0, 1, 2, 2, 3, 3, 3, 3, 4, 4, 4, 4, 4, 4, 4, 4, 5, 5, 5, 5, 5, 5, 5, 5, 5, 5, 5, 5, 5, 5, 5, 5, 6, 6, 6, 6, 6, 6, 6, 6, 6, 6, 6, 6, 6, 6, 6, 6, 6, 6, 6, 6, 6, 6, 6, 6, 6, 6, 6, 6, 6, 6, 6, 6, 7, 7, 7, 7, 7, 7, 7, 7, 7, 7, 7, 7, 7, 7, 7, 7, 7, 7, 7, 7, 7, 7, 7, 7, 7, 7, 7, 7, 7, 7, 7, 7, 7, 7, 7, 7, 7, 7, 7, 7, 7, 7, 7, 7, 7, 7, 7, 7, 7, 7, 7, 7, 7, 7, 7, 7, 7, 7, 7, 7, 7, 7, 7, 7, 8, 8, 8, 8, 8, 8, 8, 8, 8, 8, 8, 8, 8, 8, 8, 8, 8, 8, 8, 8, 8, 8, 8, 8, 8, 8, 8, 8, 8, 8, 8, 8, 8, 8, 8, 8, 8, 8, 8, 8, 8, 8, 8, 8, 8, 8, 8, 8, 8, 8, 8, 8, 8, 8, 8, 8, 8, 8, 8, 8, 8, 8, 8, 8, 8, 8, 8, 8, 8, 8, 8, 8, 8, 8, 8, 8, 8, 8, 8, 8, 8, 8, 8, 8, 8, 8, 8, 8, 8, 8, 8, 8, 8, 8, 8, 8, 8, 8, 8, 8, 8, 8, 8, 8, 8, 8, 8, 8, 8, 8, 8, 8, 8, 8, 8, 8, 8, 8, 8, 8, 8, 8, 8, 8, 8, 8, 8, 8]⟩ : ByteArray) i = len8 i := by
  obtain ⟨n, rfl⟩ := Int.eq_ofNat_of_zero_le h0
  exact tab_fin ⟨n, by omega⟩
/-- It has n bits. -/
def Bits (n : Nat) (y : Int) : Prop := 1 ≤ n ∧ (2 : Int) ^ (n - 1) ≤ y ∧ y < 2 ^ n
theorem len8_bits {i : Int} (h0 : 1 ≤ i) (h1 : i < 256) : ∃ m : Nat, len8 i = m ∧ m ≤ 8 ∧ Bits m i := by
  unfold len8 Bits
  rw [if_neg (by omega)]
  by_cases c1 : i < 2
  · rw [if_pos c1]; exact ⟨1, rfl, by omega, by omega, by simp; omega, by simp; omega⟩
  rw [if_neg c1]
  by_cases c2 : i < 4
  · rw [if_pos c2]; exact ⟨2, rfl, by omega, by omega, by simp; omega, by simp; omega⟩
  rw [if_neg c2]
  by_cases c3 : i < 8
  · rw [if_pos c3]; exact ⟨3, rfl, by omega, by omega, by simp; omega, by simp; omega⟩
  rw [if_neg c3]
  by_cases c4 : i < 16
  · rw [if_pos c4]; exact ⟨4, rfl, by omega, by omega, by simp; omega, by simp; omega⟩
  rw [if_neg c4]
  by_cases c5 : i < 32
  · rw [if_pos c5]; exact ⟨5, rfl, by omega, by omega, by simp; omega, by simp; omega⟩
  rw [if_neg c5]
  by_cases c6 : i < 64
  · rw [if_pos c6]; exact ⟨6, rfl, by omega, by omega, by simp; omega, by simp; omega⟩
  rw [if_neg c6]
  by_cases c7 : i < 128
  · rw [if_pos c7]; exact ⟨7, rfl, by omega, by omega, by simp; omega, by simp; omega⟩
  rw [if_neg c7]
  exact ⟨8, rfl, by omega, by omega, by simp; omega, by simp; omega⟩
theorem bits_up {t m : Nat} {y : Int} (h : Bits m (y / 2 ^ t)) : Bits (m + t) y := by
  obtain ⟨a, b, c⟩ := h
  have hp : (0 : Int) < 2 ^ t := Int.pow_pos (by decide)
  refine ⟨by omega, ?_, ?_⟩
  · have := (Int.le_ediv_iff_mul_le hp).1 b
    rw [show m + t - 1 = m - 1 + t by omega, Int.pow_add]
    exact this
  · have := (Int.ediv_lt_iff_lt_mul hp).1 c
    rw [Int.pow_add]
    exact this

theorem len64 {y : Int} (h0 : 1 ≤ y) (h1 : y < 18446744073709551616) (k : Nat) : ∃ n : Nat, math_bits_Len64.f (k + 1) y = some (n : Int) ∧ n ≤ 64 ∧ Bits n y := by
  have key : ∀ (z x2 : Int) (t : Nat), 1 ≤ z → z < 4294967296 → x2 = t → t ≤ 32 → ∃ n : Nat, math_bits_Len64.j0 (k + 1) z x2 = some (n + t : Int) ∧ n ≤ 32 ∧ Bits n z := by
    intro z x2 t z0 z1 hx ht
    subst hx
    rw [math_bits_Len64.j0]
    by_cases c1 : z ≥ 65536
    · rw [if_pos c1]
      by_cases c2 : z / 65536 ≥ 256
      · rw [if_pos c2, if_pos (by omega), if_pos (by omega), tab (by omega) (by omega)]
        obtain ⟨m, e, hm, hb⟩ := len8_bits (i := z / 65536 / 256 % 256) (by omega) (by omega)
        rw [e]
        refine ⟨m + 24, ?_, by omega, ?_⟩
        · congr 1
          rw [w64 (n := (t : Int) + 16) (by omega) (by omega), w64 (n := (t : Int) + 16 + 8) (by omega) (by omega), w64 (n := (m : Int)) (by omega) (by omega), w64 (by omega) (by omega)]
          omega
        · refine bits_up ?_
          have : z / 2 ^ 24 = z / 65536 / 256 % 256 := by simp; omega
          rw [this]
          exact hb
      · rw [if_neg c2, if_pos (by omega), if_pos (by omega), tab (by omega) (by omega)]
        obtain ⟨m, e, hm, hb⟩ := len8_bits (i := z / 65536 % 256) (by omega) (by omega)
        rw [e]
        refine ⟨m + 16, ?_, by omega, ?_⟩
        · congr 1
          rw [w64 (n := (t : Int) + 16) (by omega) (by omega), w64 (n := (m : Int)) (by omega) (by omega), w64 (by omega) (by omega)]
          omega
        · refine bits_up ?_
          have : z / 2 ^ 16 = z / 65536 % 256 := by simp; omega
          rw [this]
          exact hb
    · rw [if_neg c1]
      by_cases c2 : z ≥ 256
      · rw [if_pos c2, if_pos (by omega), if_pos (by omega), tab (by omega) (by omega)]
        obtain ⟨m, e, hm, hb⟩ := len8_bits (i := z / 256 % 256) (by omega) (by omega)
        rw [e]
        refine ⟨m + 8, ?_, by omega, ?_⟩
        · congr 1
          rw [w64 (n := (t : Int) + 8) (by omega) (by omega), w64 (n := (m : Int)) (by omega) (by omega), w64 (by omega) (by omega)]
          omega
        · refine bits_up ?_
          have : z / 2 ^ 8 = z / 256 % 256 := by simp; omega
          rw [this]
          exact hb
      · rw [if_neg c2, if_pos (by omega), if_pos (by omega), tab (by omega) (by omega)]
        obtain ⟨m, e, hm, hb⟩ := len8_bits (i := z % 256) (by omega) (by omega)
        rw [e]
        refine ⟨m, ?_, by omega, ?_⟩
        · congr 1
          rw [w64 (n := (m : Int)) (by omega) (by omega), w64 (by omega) (by omega)]
          omega
        · have : z % 256 = z := by omega
          rw [this] at hb
          exact hb
  unfold math_bits_Len64.f
  by_cases c : y ≥ 4294967296
  · rw [if_pos c]
    obtain ⟨n, e, hn, hb⟩ := key (y / 4294967296) 32 32 (by omega) (by omega) rfl (by omega)
    refine ⟨n + 32, by rw [e]; simp, by omega, bits_up ?_⟩
    have : (2 : Int) ^ 32 = 4294967296 := by decide
    rw [this]
    exact hb
  · rw [if_neg c]
    obtain ⟨n, e, hn, hb⟩ := key y 0 0 (by omega) (by omega) rfl (by omega)
    exact ⟨n, by rw [e]; simp, by omega, hb⟩

/-- one digit, as the first loop finds it -/
theorem digit0 {B : Nat} {res : Option (Int × Int)} {x2 x8 x9 x10 x11 x13 x14 q : Int} (hY : x2 = x9 * 4294967296 + x10) (h1 : 2147483648 ≤ x9) (hY1 : x2 < 18446744073709551616)
    (h00 : 0 ≤ x10) (h01 : x10 < 4294967296) (hU0 : 0 ≤ x11) (hU : x11 < x2) (hu0 : 0 ≤ x13) (hu : x13 < 4294967296) (hq : q = (x11 * 4294967296 + x13) / x2)
    (hres : ∀ k, B ≤ k → math_bits_Div64.j2 k x2 x8 x9 x10 x11 x13 x14 q = res) :
    ∀ (d : Nat) (g r : Int), q ≤ g → g ≤ 4294967297 → g - q ≤ d → g * x9 + r = x11 → 0 ≤ r → (r < 4294967296) → ∀ k, B + 2 * d + 2 ≤ k → math_bits_Div64.l0 k x2 x8 x9 x10 x11 x13 x14 g r = res := by
  obtain ⟨_, _, q0, q1⟩ := guess hY h1 h00 h01 hU0 hU hu0 hu
  rw [← hq] at q0 q1
  intro d
  induction d with
  | zero =>
    intro g r hg _ hd hr r0 r1 k hk
    obtain ⟨k, rfl⟩ : ∃ m, k = m + 2 := ⟨k - 2, by omega⟩
    have e : g = q := by omega
    subst e
    have hle : g * x10 ≤ 4294967296 * r + x13 := by
      rw [← parts hY hr]
      have b := Int.mul_ediv_add_emod (x11 * 4294967296 + x13) x2
      have b0 := Int.emod_nonneg (x11 * 4294967296 + x13) (show x2 ≠ 0 by omega)
      rw [← hq, Int.mul_comm] at b
      omega
    have gy0 : 0 ≤ g * x10 := Int.mul_nonneg q0 h00
    simp only [math_bits_Div64.l0]
    rw [if_neg (by omega), wu_id (n := g * x10) gy0 (by omega), wu_id (n := 4294967296 * r) (by omega) (by omega), wu_id (n := 4294967296 * r + x13) (by omega) (by omega), decide_eq_false (by omega)]
    simp only [math_bits_Div64.j1, Bool.false_eq_true, if_false]
    exact hres k (by omega)
  | succ d ih =>
    intro g r hg hg1 hd hr r0 r1 k hk
    obtain ⟨k, rfl⟩ : ∃ m, k = m + 2 := ⟨k - 2, by omega⟩
    have step : q < g → math_bits_Div64.j1 (k + 1) x2 x8 x9 x10 x11 x13 x14 g r true = res := by
      intro hlt
      simp only [math_bits_Div64.j1, if_true]
      rw [wu_id (n := r + x9) (by omega) (by omega), wu_id (n := g - 1) (by omega) (by omega)]
      by_cases c : r + x9 ≥ 4294967296
      · rw [if_pos c]
        have e : g - 1 = q := by
          refine right (show 0 < x2 by omega) hq (by omega) ?_
          rw [parts (r := r + x9) hY (by rw [Int.sub_mul]; omega)]
          have m : (g - 1) * x10 ≤ 4294967296 * x10 := Int.mul_le_mul_of_nonneg_right (by omega) h00
          omega
        rw [e]
        exact hres k (by omega)
      · rw [if_neg c]
        exact ih (g - 1) (r + x9) (by omega) (by omega) (by omega) (by rw [Int.sub_mul]; omega) (by omega) (by omega) k (by omega)
    simp only [math_bits_Div64.l0]
    by_cases c : g ≥ 4294967296
    · rw [if_pos c]
      exact step (by omega)
    · rw [if_neg c]
      have gy0 : 0 ≤ g * x10 := Int.mul_nonneg (by omega) h00
      have gy1 : g * x10 ≤ 4294967296 * x10 := Int.mul_le_mul_of_nonneg_right (by omega) h00
      rw [wu_id (n := g * x10) gy0 (by omega), wu_id (n := 4294967296 * r) (by omega) (by omega), wu_id (n := 4294967296 * r + x13) (by omega) (by omega)]
      by_cases c2 : g * x10 > 4294967296 * r + x13
      · rw [decide_eq_true c2]
        refine step (wrong (Y := x2) (N := x11 * 4294967296 + x13) (by omega) hq ?_)
        have := (parts (u := x13) hY hr)
        omega
      · rw [decide_eq_false c2]
        simp only [math_bits_Div64.j1, Bool.false_eq_true, if_false]
        have e : g = q := right (Y := x2) (by omega) hq hg ((parts hY hr).2 (by omega))
        rw [e]
        exact hres k (by omega)

/-- the second digit, and what comes behind it -/
theorem digit1 {x2 x8 x9 x10 x14 x15 x17 q : Int} (hY : x2 = x9 * 4294967296 + x10) (h1 : 2147483648 ≤ x9) (hY1 : x2 < 18446744073709551616)
    (h00 : 0 ≤ x10) (h01 : x10 < 4294967296) (hU0 : 0 ≤ x17) (hU : x17 < x2) (hu0 : 0 ≤ x14) (hu : x14 < 4294967296) (hq : q = (x17 * 4294967296 + x14) / x2) (h8 : 0 ≤ x8) (hp0 : 0 ≤ x15) (hp1 : x15 < 4294967296) :
    ∀ (d : Nat) (g r : Int), q ≤ g → g ≤ 4294967297 → g - q ≤ d → g * x9 + r = x17 → 0 ≤ r → (r < 4294967296) → ∀ k, 2 * d + 2 ≤ k → math_bits_Div64.l1 k x2 x8 x9 x10 x14 x15 r x17 g = some (x15 * 4294967296 + q, shr .u64 ((x17 * 4294967296 + x14) % x2) x8) := by
  obtain ⟨_, _, q0, q1⟩ := guess hY h1 h00 h01 hU0 hU hu0 hu
  rw [← hq] at q0 q1
  have b := Int.mul_ediv_add_emod (x17 * 4294967296 + x14) x2
  have b0 := Int.emod_nonneg (x17 * 4294967296 + x14) (show x2 ≠ 0 by omega)
  have b1 := Int.emod_lt_of_pos (x17 * 4294967296 + x14) (show 0 < x2 by omega)
  rw [← hq, Int.mul_comm] at b
  have fin : some (IntKind.u64.wrap ((IntKind.u64.wrap (x15 * 4294967296)) + q), shr .u64 (IntKind.u64.wrap ((IntKind.u64.wrap ((IntKind.u64.wrap (x17 * 4294967296)) + x14)) - (IntKind.u64.wrap (q * x2)))) x8) = some (x15 * 4294967296 + q, shr .u64 ((x17 * 4294967296 + x14) % x2) x8) := by
    rw [wu_id (n := x15 * 4294967296) (by omega) (by omega), wu_id (n := x15 * 4294967296 + q) (by omega) (by omega)]
    congr 3
    simp only [wu]
    generalize q * x2 = m at *
    generalize (x17 * 4294967296 + x14) % x2 = t at *
    omega
  intro d
  induction d with
  | zero =>
    intro g r hg _ hd hr r0 r1 k hk
    obtain ⟨k, rfl⟩ : ∃ m, k = m + 2 := ⟨k - 2, by omega⟩
    have e : g = q := by omega
    subst e
    have hle : g * x10 ≤ 4294967296 * r + x14 := by
      rw [← parts hY hr]
      omega
    have gy0 : 0 ≤ g * x10 := Int.mul_nonneg q0 h00
    simp only [math_bits_Div64.l1]
    rw [if_neg (by omega), wu_id (n := g * x10) gy0 (by omega), wu_id (n := 4294967296 * r) (by omega) (by omega), wu_id (n := 4294967296 * r + x14) (by omega) (by omega), decide_eq_false (by omega)]
    simp only [math_bits_Div64.j4, Bool.false_eq_true, if_false]
    rw [if_pos h8]
    exact fin
  | succ d ih =>
    intro g r hg hg1 hd hr r0 r1 k hk
    obtain ⟨k, rfl⟩ : ∃ m, k = m + 2 := ⟨k - 2, by omega⟩
    have step : q < g → math_bits_Div64.j4 (k + 1) x2 x8 x9 x10 x14 x15 r x17 g true = some (x15 * 4294967296 + q, shr .u64 ((x17 * 4294967296 + x14) % x2) x8) := by
      intro hlt
      simp only [math_bits_Div64.j4, if_true]
      rw [wu_id (n := r + x9) (by omega) (by omega), wu_id (n := g - 1) (by omega) (by omega)]
      by_cases c : r + x9 ≥ 4294967296
      · rw [if_pos c, if_pos h8]
        have e : g - 1 = q := by
          refine right (show 0 < x2 by omega) hq (by omega) ?_
          rw [parts (r := r + x9) hY (by rw [Int.sub_mul]; omega)]
          have m : (g - 1) * x10 ≤ 4294967296 * x10 := Int.mul_le_mul_of_nonneg_right (by omega) h00
          omega
        rw [e]
        exact fin
      · rw [if_neg c]
        exact ih (g - 1) (r + x9) (by omega) (by omega) (by omega) (by rw [Int.sub_mul]; omega) (by omega) (by omega) k (by omega)
    simp only [math_bits_Div64.l1]
    by_cases c : g ≥ 4294967296
    · rw [if_pos c]
      exact step (by omega)
    · rw [if_neg c]
      have gy0 : 0 ≤ g * x10 := Int.mul_nonneg (by omega) h00
      have gy1 : g * x10 ≤ 4294967296 * x10 := Int.mul_le_mul_of_nonneg_right (by omega) h00
      rw [wu_id (n := g * x10) gy0 (by omega), wu_id (n := 4294967296 * r) (by omega) (by omega), wu_id (n := 4294967296 * r + x14) (by omega) (by omega)]
      by_cases c2 : g * x10 > 4294967296 * r + x14
      · rw [decide_eq_true c2]
        refine step (wrong (Y := x2) (N := x17 * 4294967296 + x14) (by omega) hq ?_)
        have := (parts (u := x14) hY hr)
        omega
      · rw [decide_eq_false c2]
        simp only [math_bits_Div64.j4, Bool.false_eq_true, if_false]
        have e : g = q := right (Y := x2) (by omega) hq hg ((parts hY hr).2 (by omega))
        rw [e, if_pos h8]
        exact fin

theorem div64 {hi lo y : Int} (h0 : 0 ≤ hi) (h1 : hi < y) (l0 : 0 ≤ lo) (l1 : lo < 18446744073709551616) (y1 : y < 18446744073709551616) {k : Nat} (hk : 24 ≤ k) :
    math_bits_Div64.f k hi lo y = some ((hi * 18446744073709551616 + lo) / y, (hi * 18446744073709551616 + lo) % y) := by
  obtain ⟨k, rfl⟩ : ∃ m, k = m + 24 := ⟨k - 24, by omega⟩
  unfold math_bits_Div64.f
  rw [if_neg (by omega), if_neg (by omega)]
  by_cases c : hi = 0
  · rw [if_pos c]
    subst c
    rw [td_nn l0, tm_nn l0, Int.zero_mul, Int.zero_add]
    have : lo / y ≤ lo := Int.ediv_le_self _ l0
    have : 0 ≤ lo / y := Int.ediv_nonneg l0 (by omega)
    rw [wu_id (by omega) (by omega)]
  rw [if_neg c]
  obtain ⟨n, e, hn, b0, b1, b2⟩ := len64 (y := y) (by omega) y1 (k + 23)
  unfold math_bits_LeadingZeros64.f
  rw [e]
  simp only [Option.bind_some]
  rw [w64 (by omega) (by omega), wu_id (n := 64 - (n : Int)) (by omega) (by omega), wu_id (n := 64 - (64 - (n : Int))) (by omega) (by omega)]
  rw [if_pos (by omega), if_pos (by omega)]
  unfold shl
  unfold shr
  have i1 : min (64 - (n : Int)).toNat IntKind.u64.bits = 64 - n := by show min (64 - (n : Int)).toNat 64 = 64 - n; omega
  have i2 : min (64 - (64 - (n : Int))).toNat IntKind.u64.bits = n := by show min (64 - (64 - (n : Int))).toNat 64 = n; omega
  rw [i1, i2]
  obtain ⟨S, hSd⟩ : ∃ S : Int, S = 2 ^ (64 - n) := ⟨_, rfl⟩
  rw [← hSd]
  have hS : 0 < S := by rw [hSd]; exact Int.pow_pos (by decide)
  have hP : (0 : Int) < 2 ^ n := Int.pow_pos (by decide)
  have hSP : (2 : Int) ^ n * S = 18446744073709551616 := by
    rw [hSd, ← Int.pow_add, show n + (64 - n) = 64 by omega]; decide
  have hSP2 : (2 : Int) ^ (n - 1) * S = 9223372036854775808 := by
    rw [hSd, ← Int.pow_add, show n - 1 + (64 - n) = 63 by omega]; decide
  generalize (2 : Int) ^ n = P at *
  generalize (2 : Int) ^ (n - 1) = P' at *
  have yS1 : y * S < 18446744073709551616 := by
    have : y * S < P * S := Int.mul_lt_mul_of_pos_right b2 hS
    omega
  have yS0 : 9223372036854775808 ≤ y * S := by
    have : P' * S ≤ y * S := Int.mul_le_mul_of_nonneg_right b1 (by omega)
    omega
  have hS1 : hi * S + S ≤ y * S := by
    have : (hi + 1) * S ≤ y * S := Int.mul_le_mul_of_nonneg_right (by omega) (by omega)
    rw [Int.add_mul, Int.one_mul] at this
    omega
  have hS0 : 0 ≤ hi * S := Int.mul_nonneg h0 (by omega)
  have lS0 : 0 ≤ lo * S := Int.mul_nonneg l0 (by omega)
  have lP0 : 0 ≤ lo / P := Int.ediv_nonneg l0 (by omega)
  have lP : lo * S / 18446744073709551616 = lo / P := by
    rw [← hSP]
    exact Int.mul_ediv_mul_of_pos_left _ _ hS
  have lP1 : lo / P < S := by
    rw [Int.ediv_lt_iff_lt_mul hP, Int.mul_comm, hSP]
    exact l1
  rw [wu_id (n := y * S) (by omega) yS1, wu_id (n := hi * S) hS0 (by omega), wu (lo * S)]
  have or1 : Go.bits .or .u64 (hi * S) (lo / P) = hi * S + lo / P := by
    exact bits_join .u64 64 (by decide) wraps_u64 (64 - n) _ _ hS0 (by rw [← hSd]; exact Int.mul_emod_left _ _) (by simp; omega) lP0 (by rw [← hSd]; exact lP1) (by simp; omega)
  rw [or1, and32 (by omega) yS1, and32 (by omega) (by omega)]
  have hX : (hi * 18446744073709551616 + lo) * S = ((hi * S + lo / P) * 18446744073709551616) + lo * S % 18446744073709551616 := by
    rw [← lP]
    have : (hi * 18446744073709551616 + lo) * S = hi * S * 18446744073709551616 + lo * S := by grind
    omega
  generalize hU : hi * S + lo / P = U at *
  generalize hV : lo * S % 18446744073709551616 = V at *
  generalize hY : y * S = Y at *
  have V0 : 0 ≤ V := by omega
  have V1 : V < 18446744073709551616 := by omega
  have Us : U < Y := by omega
  rw [if_neg (by omega), td_nn (by omega)]
  have sp : Y = Y / 4294967296 * 4294967296 + Y % 4294967296 := by omega
  obtain ⟨g1, g2, g3, g4⟩ := guess (u := V / 4294967296) sp (by omega) (by omega) (by omega) (by omega) Us (by omega) (by omega)
  have ga := Int.mul_ediv_add_emod U (Y / 4294967296)
  have ga0 := Int.emod_nonneg U (show Y / 4294967296 ≠ 0 by omega)
  have ga1 := Int.emod_lt_of_pos U (show 0 < Y / 4294967296 by omega)
  rw [Int.mul_comm] at ga
  have gn : 0 ≤ U / (Y / 4294967296) * (Y / 4294967296) := Int.mul_nonneg (by omega) (by omega)
  rw [wu_id (n := U / (Y / 4294967296)) (by omega) (by omega), wu_id (n := U / (Y / 4294967296) * (Y / 4294967296)) (by omega) (by omega), wu_id (n := U - U / (Y / 4294967296) * (Y / 4294967296)) (by omega) (by omega)]
  generalize hg : U / (Y / 4294967296) = g at *
  -- the first digit
  have m1 := Int.mul_ediv_add_emod (U * 4294967296 + V / 4294967296) Y
  have m10 := Int.emod_nonneg (U * 4294967296 + V / 4294967296) (show Y ≠ 0 by omega)
  have m11 := Int.emod_lt_of_pos (U * 4294967296 + V / 4294967296) (show 0 < Y by omega)
  generalize hq1 : (U * 4294967296 + V / 4294967296) / Y = q1 at *
  generalize hr1 : (U * 4294967296 + V / 4294967296) % Y = W at *
  refine digit0 (B := 14) (q := q1) (res := some ((hi * 18446744073709551616 + lo) / y, (hi * 18446744073709551616 + lo) % y)) sp (by omega) (by omega) (by omega) (by omega) (by omega) Us (by omega) (by omega) hq1.symm ?_ 4 g (U - g * (Y / 4294967296)) g1 g2 ?_ (by omega) (by omega) (by omega) (k + 24) (by omega)
  · intro k' hk'
    obtain ⟨k', rfl⟩ : ∃ m, k' = m + 14 := ⟨k' - 14, by omega⟩
    simp only [math_bits_Div64.j2]
    rw [if_neg (by omega)]
    have w : IntKind.u64.wrap ((IntKind.u64.wrap ((IntKind.u64.wrap (U * 4294967296)) + V / 4294967296)) - (IntKind.u64.wrap (q1 * Y))) = W := by
      simp only [wu]
      rw [Int.mul_comm q1 Y]
      generalize Y * q1 = m at *
      omega
    rw [w, td_nn (by omega)]
    obtain ⟨p1, p2, p3, p4⟩ := guess (u := V % 4294967296) sp (by omega) (by omega) (by omega) (show 0 ≤ W by omega) (by omega) (by omega) (by omega)
    have pa := Int.mul_ediv_add_emod W (Y / 4294967296)
    have pa0 := Int.emod_nonneg W (show Y / 4294967296 ≠ 0 by omega)
    have pa1 := Int.emod_lt_of_pos W (show 0 < Y / 4294967296 by omega)
    rw [Int.mul_comm] at pa
    have pn : 0 ≤ W / (Y / 4294967296) * (Y / 4294967296) := Int.mul_nonneg (by omega) (by omega)
    rw [wu_id (n := W / (Y / 4294967296)) (by omega) (by omega), wu_id (n := W / (Y / 4294967296) * (Y / 4294967296)) (by omega) (by omega), wu_id (n := W - W / (Y / 4294967296) * (Y / 4294967296)) (by omega) (by omega)]
    generalize hg' : W / (Y / 4294967296) = g' at *
    have m2 := Int.mul_ediv_add_emod (W * 4294967296 + V % 4294967296) Y
    have m20 := Int.emod_nonneg (W * 4294967296 + V % 4294967296) (show Y ≠ 0 by omega)
    have m21 := Int.emod_lt_of_pos (W * 4294967296 + V % 4294967296) (show 0 < Y by omega)
    generalize hq2 : (W * 4294967296 + V % 4294967296) / Y = q2 at *
    have d2 : g' - q2 ≤ 4 := by
      rcases ltge 4 (g' - q2) with c5 | c5
      · have e1 : Y * q2 + Y * 5 ≤ Y * g' := by
          have : Y * (q2 + 5) ≤ Y * g' := Int.mul_le_mul_of_nonneg_left (by omega) (by omega)
          rw [Int.mul_add] at this
          exact this
        have e2 : Y * g' = g' * (Y / 4294967296) * 4294967296 + g' * (Y % 4294967296) := by
          conv => lhs; rw [sp]
          grind
        have e3 : g' * (Y % 4294967296) ≤ 4294967297 * (Y % 4294967296) := Int.mul_le_mul_of_nonneg_right p2 (by omega)
        omega
      · exact c5
    rw [digit1 (q := q2) sp (by omega) (by omega) (by omega) (by omega) (by omega) (by omega) (by omega) (by omega) hq2.symm (by omega) (by omega) (by omega) 4 g' (W - g' * (Y / 4294967296)) p1 p2 d2 (by omega) (by omega) (by omega) (k' + 13) (by omega)]
    have fin := whole (X := hi * 18446744073709551616 + lo) (y := y) (S := S) (Q := q1 * 4294967296 + q2) (R := (W * 4294967296 + V % 4294967296) % Y) (by omega) hS (by
      rw [hX, hY, Int.mul_add]
      have : Y * (q1 * 4294967296) = Y * q1 * 4294967296 := by rw [Int.mul_assoc]
      rw [this]
      generalize Y * q1 = a at *
      generalize Y * q2 = b at *
      omega) m20 (by rw [hY]; exact m21)
    rw [fin.1, fin.2]
    unfold shr
    rw [i1]
    rw [hSd]
  · rcases ltge 4 (g - q1) with c5 | c5
    · have e1 : Y * q1 + Y * 5 ≤ Y * g := by
        have : Y * (q1 + 5) ≤ Y * g := Int.mul_le_mul_of_nonneg_left (by omega) (by omega)
        rw [Int.mul_add] at this
        exact this
      have e2 : Y * g = g * (Y / 4294967296) * 4294967296 + g * (Y % 4294967296) := by
        conv => lhs; rw [sp]
        grind
      have e3 : g * (Y % 4294967296) ≤ 4294967297 * (Y % 4294967296) := Int.mul_le_mul_of_nonneg_right g2 (by omega)
      omega
    · omega
end Go.Proofs.Ytalnlphinlfenaa.XBits
end

section
namespace Go.Proofs.Ytalnlphinlfenaa.XWide
set_option linter.unusedVariables false
set_option linter.unusedSimpArgs false
open Go.RowKit Go.Proofs.Ytalnlphinlfenaa.S Go.Proofs.Ytalnlphinlfenaa.XNum Go.Proofs.Ytalnlphinlfenaa.XBits Go.Proofs.Ytalnlphinlfenaa.Rnd Go.Proofs.YtalnlphinlfenaaW.PrintWords

abbrev I64 (n : Int) : Prop := -9223372036854775808 ≤ n ∧ n ≤ 9223372036854775807
abbrev U64 (n : Int) : Prop := 0 ≤ n ∧ n < 18446744073709551616

theorem and_ones {b : Int} (hb : I64 b) : Go.bits .and .i64 (-1) b = b := by
  show IntKind.i64.wrap (((BitVec.ofInt 64 (-1) &&& BitVec.ofInt 64 b).toNat : Nat) : Int) = b
  have e : BitVec.ofInt 64 (-1) = BitVec.allOnes 64 := by decide
  rw [e, BitVec.allOnes_and, BitVec.toNat_ofInt]
  simp only [IntKind.wrap, IntKind.bits, IntKind.signed, if_true]
  have := hb.1
  have := hb.2
  simp
  omega
theorem and_none (b : Int) : Go.bits .and .i64 0 b = 0 := by
  show IntKind.i64.wrap (((BitVec.ofInt 64 0 &&& BitVec.ofInt 64 b).toNat : Nat) : Int) = 0
  have e : BitVec.ofInt 64 0 = 0#64 := by decide
  rw [e, BitVec.zero_and]
  decide
theorem and1 {x : Int} (h0 : 0 ≤ x) (h1 : x < 18446744073709551616) : Go.bits .and .u64 x 1 = x % 2 := bits_mask .u64 64 (by decide) wraps_u64 1 (by decide) x h0 h1

theorem mul_bd {a b C D : Int} (ha : -C ≤ a) (ha' : a ≤ C) (hb : -D ≤ b) (hb' : b ≤ D) : -(C * D) ≤ a * b ∧ a * b ≤ C * D := by
  have e : (a * b).natAbs ≤ C.natAbs * D.natAbs := by
    rw [Int.natAbs_mul]
    exact Nat.mul_le_mul (by omega) (by omega)
  have f : C * D = ((C.natAbs * D.natAbs : Nat) : Int) := by
    rw [Int.natCast_mul, Int.natAbs_of_nonneg (by omega), Int.natAbs_of_nonneg (by omega)]
  rw [f]
  omega
theorem mul_i64 {a b : Int} (ha : I64 a) (hb : I64 b) : -85070591730234615865843651857942052864 ≤ a * b ∧ a * b ≤ 85070591730234615865843651857942052864 := by
  have := mul_bd (C := 9223372036854775808) (D := 9223372036854775808) (a := a) (b := b) (by have := ha.1; omega) (by have := ha.2; omega) (by have := hb.1; omega) (by have := hb.2; omega)
  omega

theorem mul {a b : Int} (ha : I64 a) (hb : I64 b) : wide_Mul.f a b = some (a * b / 18446744073709551616, a * b % 18446744073709551616) := by
  have hm := mul_i64 ha hb
  obtain ⟨a0, a1⟩ := ha
  obtain ⟨b0, b1⟩ := hb
  unfold wide_Mul.f
  rw [wu a, wu b, mul64 (by omega) (by omega) (by omega) (by omega)]
  simp only [Option.bind_some]
  by_cases ca : a < 0
  · rw [show a / 9223372036854775808 = -1 by omega, and_ones ⟨b0, b1⟩, show a % 18446744073709551616 = a + 18446744073709551616 by omega]
    by_cases cb : b < 0
    · rw [show b / 9223372036854775808 = -1 by omega, and_ones ⟨a0, a1⟩, show b % 18446744073709551616 = b + 18446744073709551616 by omega]
      have e : (a + 18446744073709551616) * (b + 18446744073709551616) = a * b + a * 18446744073709551616 + b * 18446744073709551616 + 18446744073709551616 * 18446744073709551616 := by grind
      rw [e]
      unfold wrap64
      generalize a * b = m at *
      congr 2 <;> omega
    · rw [show b / 9223372036854775808 = 0 by omega, and_none, show b % 18446744073709551616 = b by omega]
      have e : (a + 18446744073709551616) * b = a * b + b * 18446744073709551616 := by grind
      rw [e]
      unfold wrap64
      generalize a * b = m at *
      congr 2 <;> omega
  · rw [show a / 9223372036854775808 = 0 by omega, and_none, show a % 18446744073709551616 = a by omega]
    by_cases cb : b < 0
    · rw [show b / 9223372036854775808 = -1 by omega, and_ones ⟨a0, a1⟩, show b % 18446744073709551616 = b + 18446744073709551616 by omega]
      have e : a * (b + 18446744073709551616) = a * b + a * 18446744073709551616 := by grind
      rw [e]
      unfold wrap64
      generalize a * b = m at *
      congr 2 <;> omega
    · rw [show b / 9223372036854775808 = 0 by omega, and_none, show b % 18446744073709551616 = b by omega]
      unfold wrap64
      generalize a * b = m at *
      congr 2 <;> omega

theorem turned {hi lo : Int} (h : I64 hi) (l : U64 lo) : ∃ h' l', wide_turned.f hi lo = some (h', l') ∧ I64 h' ∧ U64 l' ∧
    (h' % 18446744073709551616) * 18446744073709551616 + l' = (-(hi * 18446744073709551616 + lo)) % 340282366920938463463374607431768211456 := by
  obtain ⟨h0, h1⟩ := h
  obtain ⟨l0, l1⟩ := l
  unfold wide_turned.f
  rw [if_pos l0, if_pos l1]
  refine ⟨_, _, rfl, ?_, ?_, ?_⟩
  · unfold wrap64
    omega
  · unfold XWalk.d64
    omega
  · unfold wrap64 XWalk.b64 XWalk.d64
    split <;> omega

/-- A quotient, or the error. -/
def mdiv (A b way : Int) : Int × Int :=
  if way < 0 ∨ way ≥ 2 then (0, 2) else if b = 0 then (0, 4) else if -9223372036854775808 ≤ rnd A b way ∧ rnd A b way ≤ 9223372036854775807 then (rnd A b way, 0) else (0, 3)

/-- what is told of a quotient without its sign -/
def toldQ (Q : Int) (less : Bool) : Int × Int := if less = true then (if Q ≤ 9223372036854775808 then (-Q, 0) else (0, 3)) else (if Q < 9223372036854775808 then (Q, 0) else (0, 3))

theorem j3_told {h l rest by_ : Int} {less : Bool} (h0 : 0 ≤ h) (l0 : 0 ≤ l) (l1 : l < 18446744073709551616) (k : Nat) : wide_Div.j3 (k + 2) h l rest by_ less = some (toldQ (h * 18446744073709551616 + l) less) := by
  simp only [wide_Div.j3]
  unfold toldQ
  by_cases c : h > 0
  · rw [if_pos c, if_neg (c := h * 18446744073709551616 + l ≤ _) (by omega), if_neg (c := h * 18446744073709551616 + l < _) (by omega)]
    simp
  · rw [if_neg c, show h * 18446744073709551616 + l = l by omega]
    cases less
    · simp only [wide_Div.j4, Bool.false_eq_true, if_false]
      split
      · rw [w64 (by omega) (by omega)]
      · rfl
    · simp only [wide_Div.j4, if_true]
      by_cases d : l ≤ 9223372036854775808
      · rw [decide_eq_true d, if_pos d]
        simp only [if_true]
        congr 2
        rw [wu]
        unfold wrap64
        omega
      · rw [decide_eq_false d, if_neg d]
        simp

theorem j5_told {h l rest by_ : Int} {less : Bool} (h0 : 0 ≤ h) (l0 : 0 ≤ l) (l1 : l < 18446744073709551616) (k : Nat) : wide_Div.j5 (k + 2) h l rest by_ less = some (toldQ (h * 18446744073709551616 + l) less) := by
  simp only [wide_Div.j5]
  unfold toldQ
  by_cases c : h > 0
  · rw [if_pos c, if_neg (c := h * 18446744073709551616 + l ≤ _) (by omega), if_neg (c := h * 18446744073709551616 + l < _) (by omega)]
    simp
  · rw [if_neg c, show h * 18446744073709551616 + l = l by omega]
    cases less
    · simp only [wide_Div.j6, Bool.false_eq_true, if_false]
      split
      · rw [w64 (by omega) (by omega)]
      · rfl
    · simp only [wide_Div.j6, if_true]
      by_cases d : l ≤ 9223372036854775808
      · rw [decide_eq_true d, if_pos d]
        simp only [if_true]
        congr 2
        rw [wu]
        unfold wrap64
        omega
      · rw [decide_eq_false d, if_neg d]
        simp

theorem near_told {q0 lo rest y : Int} {less : Bool} (r0 : 0 ≤ rest) (r1 : rest < y) (y1 : y < 18446744073709551616) (l0 : 0 ≤ lo) (l1 : lo < 18446744073709551616) :
    wide_quotient_near.f q0 lo rest y less = some (decide (2 * rest > y ∨ 2 * rest = y ∧ lo % 2 = 1)) := by
  unfold wide_quotient_near.f
  by_cases c : rest / 9223372036854775808 = 1
  · rw [if_pos c, decide_eq_true (by omega)]
  · rw [if_neg c, wu_id (n := rest * 2) (by omega) (by omega), and1 l0 l1]
    by_cases d : rest * 2 > y
    · rw [if_pos d, decide_eq_true (by omega)]
    · rw [if_neg d]
      by_cases e : rest * 2 = y
      · rw [if_pos e]
        congr 1
        rw [Bool.eq_iff_iff, beq_iff_eq, decide_eq_true_iff]
        omega
      · rw [if_neg e, decide_eq_false (by omega)]

/-- what is told of the sizes, by the law of sizes and signs -/
theorem told_rnd {A b way X y : Int} (hw : way = 0 ∨ way = 1) (hb : b ≠ 0) (hX : X = if A < 0 then -A else A) (hy : y = if b < 0 then -b else b) :
    toldQ (X / y + if upf way X y (decide (A < 0) != decide (b < 0)) = true then 1 else 0) (decide (A < 0) != decide (b < 0)) = mdiv A b way := by
  have this := rnd_sizes hw hb hX hy
  have hy0 : 0 < y := by subst hy; split <;> omega
  have hX0 : 0 ≤ X := by subst hX; split <;> omega
  have q0 : 0 ≤ X / y := Int.ediv_nonneg hX0 (by omega)
  unfold mdiv
  rw [if_neg (c := way < 0 ∨ way ≥ 2) (by omega), if_neg hb, this]
  generalize upf way X y (decide (A < 0) != decide (b < 0)) = up
  generalize (decide (A < 0) != decide (b < 0)) = less
  have p0 : 0 ≤ X / y + if up = true then (1 : Int) else 0 := by
    split <;> omega
  generalize (X / y + if up = true then (1 : Int) else 0) = Q at *
  unfold toldQ
  cases less
  · simp only [Bool.false_eq_true, if_false]
    by_cases c : Q < 9223372036854775808
    · rw [if_pos c, if_pos (by omega)]
    · rw [if_neg c, if_neg (by omega)]
  · simp only [if_true]
    by_cases c : Q ≤ 9223372036854775808
    · rw [if_pos c, if_pos (by omega)]
    · rw [if_neg c, if_neg (by omega)]

/-- the sum of a word and 1, with what goes over -/
theorem up_one {qh ql : Int} (h0 : 0 ≤ qh) (h1 : qh ≤ 9223372036854775808) (l0 : 0 ≤ ql) (l1 : ql < 18446744073709551616) :
    IntKind.u64.wrap (qh + XWalk.c64 ql 1 0) * 18446744073709551616 + XWalk.s64 ql 1 0 = qh * 18446744073709551616 + ql + 1 ∧ 0 ≤ IntKind.u64.wrap (qh + XWalk.c64 ql 1 0) ∧ 0 ≤ XWalk.s64 ql 1 0 ∧ XWalk.s64 ql 1 0 < 18446744073709551616 := by
  rw [wu]
  unfold XWalk.c64 XWalk.s64
  refine ⟨by omega, by omega, by omega, by omega⟩

theorem div {hi lo b way : Int} (h : I64 hi) (l : U64 lo) (hb : I64 b) {k : Nat} (hk : 30 ≤ k) : wide_Div.f k hi lo b way = some (mdiv (hi * 18446744073709551616 + lo) b way) := by
  obtain ⟨k, rfl⟩ : ∃ m, k = m + 30 := ⟨k - 30, by omega⟩
  unfold wide_Div.f
  by_cases c : way < 0 ∨ way ≥ 2
  · have e : mdiv (hi * 18446744073709551616 + lo) b way = (0, 2) := by unfold mdiv; rw [if_pos c]
    rw [e]
    by_cases c1 : way < 0
    · rw [if_pos c1]
      simp only [wide_Div.j0, if_true]
    · rw [if_neg c1, decide_eq_true (by omega)]
      simp only [wide_Div.j0, if_true]
  rw [if_neg (by omega), decide_eq_false (by omega)]
  simp only [wide_Div.j0, Bool.false_eq_true, if_false]
  by_cases cb : b = 0
  · rw [if_pos cb]
    unfold mdiv
    rw [if_neg c, if_pos cb]
  rw [if_neg cb]
  have hw : way = 0 ∨ way = 1 := by omega
  obtain ⟨h0, h1⟩ := h
  obtain ⟨l0, l1⟩ := l
  obtain ⟨b0, b1⟩ := hb
  have main : ∀ xh xl : Int, U64 xl → I64 xh → (xh % 18446744073709551616) * 18446744073709551616 + xl = (if hi * 18446744073709551616 + lo < 0 then -(hi * 18446744073709551616 + lo) else hi * 18446744073709551616 + lo) →
      wide_Div.j1 (k + 29) b way (IntKind.u64.wrap b) hi lo xh xl = some (mdiv (hi * 18446744073709551616 + lo) b way) := by
    intro xh xl ⟨xl0, xl1⟩ ⟨xh0, xh1⟩ hX
    have j2 : ∀ y : Int, y = (if b < 0 then -b else b) → wide_Div.j2 (k + 28) b way y hi lo xh xl = some (mdiv (hi * 18446744073709551616 + lo) b way) := by
      intro y hy
      have hy0 : 0 < y := by subst hy; split <;> omega
      have hy1 : y ≤ 9223372036854775808 := by subst hy; split <;> omega
      simp only [wide_Div.j2]
      rw [if_neg (by omega), wu xh, td_nn (by omega), tm_nn (by omega)]
      have x0 : 0 ≤ xh % 18446744073709551616 := by omega
      have x1 : xh % 18446744073709551616 ≤ 9223372036854775808 := by
        split at hX <;> omega
      generalize xh % 18446744073709551616 = X1 at *
      have a := Int.mul_ediv_add_emod X1 y
      have a0 := Int.emod_nonneg X1 (show y ≠ 0 by omega)
      have a1 := Int.emod_lt_of_pos X1 hy0
      have q0 : 0 ≤ X1 / y := Int.ediv_nonneg x0 (by omega)
      have q1 : X1 / y ≤ X1 := Int.ediv_le_self _ x0
      rw [div64 a0 a1 xl0 xl1 (by omega) (by omega)]
      simp only [Option.bind_some]
      generalize X1 / y = qh at *
      generalize X1 % y = rest at *
      have m := Int.mul_ediv_add_emod (rest * 18446744073709551616 + xl) y
      have m0 := Int.emod_nonneg (rest * 18446744073709551616 + xl) (show y ≠ 0 by omega)
      have m1 := Int.emod_lt_of_pos (rest * 18446744073709551616 + xl) hy0
      have p0 : 0 ≤ (rest * 18446744073709551616 + xl) / y := Int.ediv_nonneg (by omega) (by omega)
      have p1 : (rest * 18446744073709551616 + xl) / y < 18446744073709551616 := by
        rw [Int.ediv_lt_iff_lt_mul hy0, Int.mul_comm]
        omega
      generalize (rest * 18446744073709551616 + xl) / y = ql at *
      generalize (rest * 18446744073709551616 + xl) % y = rr at *
      have whole := Knuth.quot_uniq (A := X1 * 18446744073709551616 + xl) (b := y) (q := qh * 18446744073709551616 + ql) (r := rr) hy0 (by
        rw [Int.mul_add, ← Int.mul_assoc]
        generalize y * qh = u at *
        generalize y * ql = v at *
        omega) m0 m1
      have T := told_rnd (A := hi * 18446744073709551616 + lo) (b := b) (way := way) (X := X1 * 18446744073709551616 + xl) (y := y) hw cb hX hy
      unfold upf at T
      rw [whole.1, whole.2] at T
      have s : (!(decide (hi < 0) == decide (b < 0))) = (decide (hi * 18446744073709551616 + lo < 0) != decide (b < 0)) := by
        rw [show decide (hi < 0) = decide (hi * 18446744073709551616 + lo < 0) from decide_eq_decide.2 (by omega)]
        rfl
      rw [s, ← T]
      generalize (decide (hi * 18446744073709551616 + lo < 0) != decide (b < 0)) = less
      obtain ⟨u1, u2, u3, u4⟩ := up_one (qh := qh) (ql := ql) q0 (by omega) p0 p1
      rcases hw with rfl | rfl
      · simp only [if_true]
        have F : wide_quotient_floor.f (IntKind.u64.wrap qh) ql rr y less = some (less && decide (rr > 0)) := by
          unfold wide_quotient_floor.f
          cases less <;> simp
        rw [F]
        simp only [Option.bind_some]
        rw [wu_id (n := qh) q0 (by omega)]
        by_cases d : (less && decide (rr > 0)) = true
        · rw [if_pos d, if_pos d, if_pos p0]
          rw [j3_told u2 u3 u4, u1]
          first | done | rfl
        · rw [if_neg d, if_neg d]
          rw [j3_told q0 p0 p1]
          simp
      · simp only [show ((1 : Int) = 0) = False by simp, if_false, if_true]
        rw [near_told m0 m1 (by omega) p0 p1]
        simp only [Option.bind_some]
        rw [wu_id (n := qh) q0 (by omega)]
        have par : (qh * 18446744073709551616 + ql) % 2 = ql % 2 := by omega
        rw [par]
        by_cases d : (decide (2 * rr > y ∨ 2 * rr = y ∧ ql % 2 = 1)) = true
        · rw [if_pos d, if_pos d, if_pos p0]
          rw [j5_told u2 u3 u4, u1]
          first | done | rfl
        · rw [if_neg d, if_neg d]
          rw [j5_told q0 p0 p1]
          simp
    simp only [wide_Div.j1]
    by_cases d : b < 0
    · rw [if_pos d]
      refine j2 _ ?_
      rw [wu, wu, if_pos d]
      omega
    · rw [if_neg d]
      refine j2 _ ?_
      rw [wu, if_neg d]
      omega
  by_cases d : hi < 0
  · rw [if_pos d]
    obtain ⟨h', l', e, i1, i2, i3⟩ := turned ⟨h0, h1⟩ ⟨l0, l1⟩
    rw [e]
    simp only [Option.bind_some]
    refine main h' l' i2 i1 ?_
    rw [i3, if_pos (by omega)]
    omega
  · rw [if_neg d]
    refine main hi lo ⟨l0, l1⟩ ⟨h0, h1⟩ ?_
    rw [if_neg (by omega)]
    omega

theorem mulDiv {a b c way : Int} (ha : I64 a) (hb : I64 b) (hc : I64 c) {k : Nat} (hk : 30 ≤ k) : wide_MulDiv.f k a b c way = some (mdiv (a * b) c way) := by
  unfold wide_MulDiv.f
  rw [mul ha hb]
  have hm := mul_i64 ha hb
  simp only [Option.bind_some]
  rw [div ⟨by omega, by omega⟩ ⟨by omega, by omega⟩ hc hk]
  simp only [Option.bind_some]
  rw [show a * b / 18446744073709551616 * 18446744073709551616 + a * b % 18446744073709551616 = a * b by omega]
end Go.Proofs.Ytalnlphinlfenaa.XWide
end

section
namespace Go.Proofs.Ytalnlphinlfenaa.S
open Go.RowKit Go.Proofs.YtalnlphinlfenaaW.PrintWords Go.Proofs.YtalnlphinlfenaaW.PrintLast Go.Proofs.YtalnlphinlfenaaW.PrintMore
attribute [local go_sem] max2_int min2_int max_two min_two max_three min_three max_four min_four   -- for this text's walks alone
attribute [local go_sem] Go.Proofs.Ytalnlphinlfenaa.XWalk.cell2
set_option linter.unusedVariables false
set_option linter.unusedSimpArgs false

/-! ### money_May: function 54 -/
def money_May.f (a0 : Int) : Option (Bool) := if a0 ≥ (-10000000000000) then (some (decide (a0 ≤ 10000000000000))) else (some false)
set_option maxHeartbeats 8000000 in
set_option maxRecDepth 100000 in
theorem money_May.calls (a0 : Int) (r : Bool) (w : World) (h : money_May.f a0 = some r) :
    Calls Try.prog 54 #[.int .i64 a0] w fun e w' => e = .returned (.bool r) ∧ Drawn0 w w' := by
  have H : (if a0 ≥ (-10000000000000) then (some (decide (a0 ≤ 10000000000000))) else (some false)) = some r := h
  clear h
  by_cases c2 : a0 ≥ (-10000000000000)
  · rw [if_pos c2] at H
    have c2b0 : decide ((-10000000000000) ≤ a0) = true := decide_eq_true c2
    clear c2
    obtain rfl := Option.some.inj H
    go_enter Try.func54, Try.ntmps54
    go_wp2
    go_ret
    exact ⟨by first | rfl | (simp; done) | (simp [*]; done), by repeat (first | exact Drawn0.refl _ | apply Drawn0.step)⟩
  · rw [if_neg c2] at H
    have c2b0 : decide ((-10000000000000) ≤ a0) = false := decide_eq_false c2
    clear c2
    obtain rfl := Option.some.inj H
    go_enter Try.func54, Try.ntmps54
    go_wp2
    go_ret
    exact ⟨by first | rfl | (simp; done) | (simp [*]; done), by repeat (first | exact Drawn0.refl _ | apply Drawn0.step)⟩

end Go.Proofs.Ytalnlphinlfenaa.S
end

section
namespace Go.Proofs.Ytalnlphinlfenaa.XMoney
set_option linter.unusedVariables false
set_option linter.unusedSimpArgs false
open Go.RowKit Go.Proofs.Ytalnlphinlfenaa.S Go.Proofs.Ytalnlphinlfenaa.XNum Go.Proofs.Ytalnlphinlfenaa.XBits Go.Proofs.Ytalnlphinlfenaa.XWide Go.Proofs.YtalnlphinlfenaaW.PrintWords

/-- A number, or that it is too great. -/
def told (n : Int) : Int × Int := if -9223372036854775808 ≤ n ∧ n ≤ 9223372036854775807 then (n, 0) else (0, 3)
theorem told_in {n : Int} (h0 : -9223372036854775808 ≤ n) (h1 : n ≤ 9223372036854775807) : told n = (n, 0) := by unfold told; rw [if_pos ⟨h0, h1⟩]
theorem told_out {n : Int} (h : n < -9223372036854775808 ∨ 9223372036854775807 < n) : told n = (0, 3) := by unfold told; rw [if_neg (by omega)]
theorem told_f (n : Int) (b : Bool) : money_told.f n b = some (if b = true then (n, 0) else (0, 3)) := by
  unfold money_told.f
  cases b <;> simp

theorem add {a b : Int} (ha : I64 a) (hb : I64 b) : money_Add.f a b = some (told (a + b)) := by
  obtain ⟨a0, a1⟩ := ha
  obtain ⟨b0, b1⟩ := hb
  unfold money_Add.f money_sum_int64.f
  by_cases ca : a < 0
  · by_cases cb : b < 0
    · rw [decide_eq_true ca, decide_eq_true cb]
      simp only [beq_self_eq_true, Bool.not_true, Bool.false_eq_true, if_false, Option.bind_some, told_f]
      by_cases c : a + b < -9223372036854775808
      · rw [told_out (.inl c), decide_eq_false (by unfold wrap64; omega)]
        simp
      · rw [told_in (by omega) (by omega), w64 (by omega) (by omega), decide_eq_true (by omega)]
        simp
    · rw [decide_eq_true ca, decide_eq_false cb, told_in (by omega) (by omega), w64 (by omega) (by omega)]
      simp [told_f]
  · by_cases cb : b < 0
    · rw [decide_eq_false ca, decide_eq_true cb, told_in (by omega) (by omega), w64 (by omega) (by omega)]
      simp [told_f]
    · rw [decide_eq_false ca, decide_eq_false cb]
      simp only [beq_self_eq_true, Bool.not_true, Bool.false_eq_true, if_false, Option.bind_some, told_f]
      by_cases c : a + b > 9223372036854775807
      · rw [told_out (.inr c), decide_eq_true (by unfold wrap64; omega)]
        simp
      · rw [told_in (by omega) (by omega), w64 (by omega) (by omega), decide_eq_false (by omega)]
        simp

theorem sub {a b : Int} (ha : I64 a) (hb : I64 b) : money_Sub.f a b = some (told (a - b)) := by
  obtain ⟨a0, a1⟩ := ha
  obtain ⟨b0, b1⟩ := hb
  unfold money_Sub.f
  by_cases ca : a < 0
  · by_cases cb : b < 0
    · rw [decide_eq_true ca, decide_eq_true cb, told_in (by omega) (by omega), w64 (by omega) (by omega)]
      simp [told_f]
    · rw [decide_eq_true ca, decide_eq_false cb]
      simp only [beq_false, Bool.not_true, Bool.false_eq_true, if_false, Option.bind_some, told_f]
      by_cases c : a - b < -9223372036854775808
      · rw [told_out (.inl c), decide_eq_false (by unfold wrap64; omega)]
        simp
      · rw [told_in (by omega) (by omega), w64 (by omega) (by omega), decide_eq_true (by omega)]
        simp
  · by_cases cb : b < 0
    · rw [decide_eq_false ca, decide_eq_true cb]
      simp only [beq_true, Bool.false_eq_true, if_false, Option.bind_some, told_f]
      by_cases c : a - b > 9223372036854775807
      · rw [told_out (.inr c), decide_eq_true (by unfold wrap64; omega)]
        simp
      · rw [told_in (by omega) (by omega), w64 (by omega) (by omega), decide_eq_false (by omega)]
        simp
    · rw [decide_eq_false ca, decide_eq_false cb, told_in (by omega) (by omega), w64 (by omega) (by omega)]
      simp [told_f]

theorem ref_add {a b : Int} (ha : I64 a) (hb : I64 b) : lombardref01_Add.f a b = some (told (a + b)) := by
  obtain ⟨a0, a1⟩ := ha
  obtain ⟨b0, b1⟩ := hb
  unfold lombardref01_Add.f
  by_cases c : b > 0
  · rw [if_pos c, w64 (n := 9223372036854775807 - b) (by omega) (by omega)]
    by_cases d : a > 9223372036854775807 - b
    · rw [if_pos d, told_out (by omega)]
    · rw [if_neg d, if_neg (by omega), told_in (by omega) (by omega), w64 (by omega) (by omega)]
  · rw [if_neg c]
    by_cases d : b < 0
    · rw [if_pos d, w64 (n := -9223372036854775808 - b) (by omega) (by omega)]
      by_cases e : a < -9223372036854775808 - b
      · rw [if_pos e, told_out (by omega)]
      · rw [if_neg e, told_in (by omega) (by omega), w64 (by omega) (by omega)]
    · rw [if_neg d, told_in (by omega) (by omega), w64 (by omega) (by omega)]

theorem ref_sub {a b : Int} (ha : I64 a) (hb : I64 b) : lombardref01_Sub.f a b = some (told (a - b)) := by
  obtain ⟨a0, a1⟩ := ha
  obtain ⟨b0, b1⟩ := hb
  unfold lombardref01_Sub.f
  by_cases c : b < 0
  · rw [if_pos c, w64 (n := 9223372036854775807 + b) (by omega) (by omega)]
    by_cases d : a > 9223372036854775807 + b
    · rw [if_pos d, told_out (by omega)]
    · rw [if_neg d, if_neg (by omega), told_in (by omega) (by omega), w64 (by omega) (by omega)]
  · rw [if_neg c]
    by_cases d : b > 0
    · rw [if_pos d, w64 (n := -9223372036854775808 + b) (by omega) (by omega)]
      by_cases e : a < -9223372036854775808 + b
      · rw [if_pos e, told_out (by omega)]
      · rw [if_neg e, told_in (by omega) (by omega), w64 (by omega) (by omega)]
    · rw [if_neg d, told_in (by omega) (by omega), w64 (by omega) (by omega)]

theorem may (n : Int) : money_May.f n = some (decide (-10000000000000 ≤ n ∧ n ≤ 10000000000000)) := by
  unfold money_May.f
  split
  · congr 1
    rw [decide_eq_decide]
    omega
  · rw [decide_eq_false (by omega)]
end Go.Proofs.Ytalnlphinlfenaa.XMoney
end

section
namespace Go.Proofs.Ytalnlphinlfenaa.XMdiv
set_option linter.unusedVariables false
set_option linter.unusedSimpArgs false
open Go.RowKit Go.Proofs.Ytalnlphinlfenaa.S Go.Proofs.Ytalnlphinlfenaa.XNum Go.Proofs.Ytalnlphinlfenaa.XBits Go.Proofs.Ytalnlphinlfenaa.XWide Go.Proofs.Ytalnlphinlfenaa.Rnd Go.Proofs.YtalnlphinlfenaaW.PrintWords

theorem rnd_n {A b : Int} (hb : 0 < b) : rnd A b 1 = near A b := by
  unfold rnd
  rw [if_neg (c := (1 : Int) = 0) (by omega), if_neg (c := b < 0) (by omega)]
/-- to the nearer one, by a number above 0 -/
theorem mdiv_n {A b : Int} (hb : 0 < b) : mdiv A b 1 = if I64 (near A b) then (near A b, 0) else (0, 3) := by
  unfold mdiv
  rw [if_neg (c := (1 : Int) < 0 ∨ (1 : Int) ≥ 2) (by omega), if_neg (c := b = 0) (by omega), rnd_n hb]
theorem mdiv_in {A b : Int} (hb : 0 < b) (h : I64 (near A b)) : mdiv A b 1 = (near A b, 0) := by
  rw [mdiv_n hb, if_pos h]
theorem mdiv_i64 (A b way : Int) : I64 (mdiv A b way).1 := by
  unfold mdiv
  split
  · exact ⟨by decide, by decide⟩
  · split
    · exact ⟨by decide, by decide⟩
    · split
      · assumption
      · exact ⟨by decide, by decide⟩
theorem mdiv_err (A b way : Int) : (mdiv A b way).2 ≠ 0 → (mdiv A b way).1 = 0 := by
  unfold mdiv
  split
  · intro _; rfl
  · split
    · intro _; rfl
    · split
      · intro h; exact absurd rfl h
      · intro _; rfl
/-- of a number of 0 or more, by a greater one there is no more -/
theorem near_anti {A b c : Int} (hA : 0 ≤ A) (hb : 0 < b) (h : b ≤ c) : near A c ≤ near A b := by
  obtain ⟨a1, a2, a3⟩ := near_spec (A := A) hb
  obtain ⟨b1, b2, b3⟩ := near_spec (A := A) (b := c) (by omega)
  have n0 := near_nn (A := A) hb hA
  have m0 := near_nn (A := A) (b := c) (by omega) hA
  generalize near A b = N at *
  generalize near A c = M at *
  by_cases d : M ≤ N
  · exact d
  -- M ≥ N + 1: c M ≥ c (N + 1) ≥ b N + ..
  have e1 : c * (N + 1) ≤ c * M := Int.mul_le_mul_of_nonneg_left (by omega) (by omega)
  have e2 : b * N ≤ c * N := Int.mul_le_mul_of_nonneg_right h n0
  rw [Int.mul_add, Int.mul_one] at e1
  -- 2 c M ≤ 2 A + c, 2 A ≤ 2 b N + b
  have e3 : M = N + 1 := by
    by_cases f : M = N + 1
    · exact f
    · have : c * (N + 2) ≤ c * M := Int.mul_le_mul_of_nonneg_left (by omega) (by omega)
      rw [Int.mul_add] at this
      omega
  subst e3
  rw [Int.mul_add, Int.mul_one] at *
  by_cases g : b = c
  · subst g
    omega
  · omega
end Go.Proofs.Ytalnlphinlfenaa.XMdiv
end

section
namespace Go.Proofs.Ytalnlphinlfenaa.S
open Go.RowKit Go.Proofs.YtalnlphinlfenaaW.PrintWords Go.Proofs.YtalnlphinlfenaaW.PrintLast Go.Proofs.YtalnlphinlfenaaW.PrintMore
attribute [local go_sem] max2_int min2_int max_two min_two max_three min_three max_four min_four   -- for this text's walks alone
attribute [local go_sem] Go.Proofs.Ytalnlphinlfenaa.XWalk.cell2
set_option linter.unusedVariables false
set_option linter.unusedSimpArgs false

/-! ### rate_back_terms: function 99 -/
def rate_back_terms.f (a0 : Int) : Option (Int × Int) := some (1000000000000, wrap64 (1000000000000 + a0))
set_option maxHeartbeats 8000000 in
set_option maxRecDepth 100000 in
theorem rate_back_terms.calls (a0 : Int) (r1 : Int) (r2 : Int) (w : World) (h : rate_back_terms.f a0 = some (r1, r2)) :
    Calls Try.prog 99 #[.int .i64 a0] w fun e w' => e = .returned (.tuple #[.int .i64 r1, .int .i64 r2]) ∧ Drawn0 w w' := by
  have H : (some (1000000000000, wrap64 (1000000000000 + a0))) = some (r1, r2) := h
  clear h
  simp only [Option.some.injEq, Prod.mk.injEq] at H
  obtain ⟨rfl, rfl⟩ := H
  go_enter Try.func99, Try.ntmps99
  go_wp2
  go_ret2
  exact ⟨by first | rfl | (simp; done) | (simp [*]; done), by repeat (first | exact Drawn0.refl _ | apply Drawn0.step)⟩

end Go.Proofs.Ytalnlphinlfenaa.S
end

section
namespace Go.Proofs.Ytalnlphinlfenaa.S
open Go.RowKit Go.Proofs.YtalnlphinlfenaaW.PrintWords Go.Proofs.YtalnlphinlfenaaW.PrintLast Go.Proofs.YtalnlphinlfenaaW.PrintMore
attribute [local go_sem] max2_int min2_int max_two min_two max_three min_three max_four min_four   -- for this text's walks alone
attribute [local go_sem] Go.Proofs.Ytalnlphinlfenaa.XWalk.cell2
set_option linter.unusedVariables false
set_option linter.unusedSimpArgs false

/-! ### rate_over_rate_back: function 40 -/
def rate_over_rate_back.f (k : Nat) (a0 : Int) (a1 : Int) : Option (Int × Int) := (rate_May.f a1).bind fun t290 => (if t290 = true then ((rate_back_terms.f a1).bind fun bt291 => ((wide_MulDiv.f k a0 bt291.1 bt291.2 1).bind fun bt293 => (some (bt293.1, bt293.2)))) else (some (0, 2)))
theorem rate_over_rate_back.mono : ∀ a0 a1 k, LeO (rate_over_rate_back.f k a0 a1) (rate_over_rate_back.f (k + 1) a0 a1) := by
  intro a0 a1 k
  unfold rate_over_rate_back.f
  repeat' first
      | (with_reducible exact wide_MulDiv.mono _ _ _ _ _)
      | (with_reducible exact LeO.refl _)
      | (with_reducible exact LeO.none _)
      | (with_reducible refine LeO.ite ?_ ?_)
      | (with_reducible refine LeO.bind ?_ (fun _ => ?_))
      | exact wide_MulDiv.mono _ _ _ _ _
      | exact LeO.none _
      | refine LeO.ite ?_ ?_
      | refine LeO.bind ?_ (fun _ => ?_)
set_option maxHeartbeats 8000000 in
set_option maxRecDepth 100000 in
theorem rate_over_rate_back.calls (k : Nat) (a0 : Int) (a1 : Int) (r1 : Int) (r2 : Int) (w : World) (h : rate_over_rate_back.f k a0 a1 = some (r1, r2)) :
    Calls Try.prog 40 #[.int .i64 a0, .int .i64 a1] w fun e w' => e = .returned (.tuple #[.int .i64 r1, .int .i64 r2]) ∧ Below w.heap.size w w' := by
  have HB := Aside0.mk (Below.refl w.heap.size w)
  have H : ((rate_May.f a1).bind fun t290 => (if t290 = true then ((rate_back_terms.f a1).bind fun bt291 => ((wide_MulDiv.f k a0 bt291.1 bt291.2 1).bind fun bt293 => (some (bt293.1, bt293.2)))) else (some (0, 2)))) = some (r1, r2) := h
  clear h
  replace H := Option.bind_eq_some_iff.mp H
  obtain ⟨t290, A30, H⟩ := H
  replace H : (if t290 = true then ((rate_back_terms.f a1).bind fun bt291 => ((wide_MulDiv.f k a0 bt291.1 bt291.2 1).bind fun bt293 => (some (bt293.1, bt293.2)))) else (some (0, 2))) = some (r1, r2) := H
  have A3 := Aside0.mk A30
  clear A30
  by_cases c4 : t290 = true
  · subst c4
    have H1 : ((rate_back_terms.f a1).bind fun bt291 => ((wide_MulDiv.f k a0 bt291.1 bt291.2 1).bind fun bt293 => (some (bt293.1, bt293.2)))) = some (r1, r2) := by rw [if_pos rfl] at H; exact H
    clear H
    have H := H1
    clear H1
    replace H := Option.bind_eq_some_iff.mp H
    obtain ⟨⟨t291, t292⟩, A50, H⟩ := H
    replace H : ((wide_MulDiv.f k a0 t291 t292 1).bind fun bt293 => (some (bt293.1, bt293.2))) = some (r1, r2) := H
    have A5 := Aside0.mk A50
    clear A50
    replace H := Option.bind_eq_some_iff.mp H
    obtain ⟨⟨t293, t294⟩, A60, H⟩ := H
    replace H : (some (t293, t294)) = some (r1, r2) := H
    have A6 := Aside0.mk A60
    clear A60
    simp only [Option.some.injEq, Prod.mk.injEq] at H
    obtain ⟨rfl, rfl⟩ := H
    go_enter Try.func40, Try.ntmps40
    go_wp2_with (first | ((with_reducible refine gate_callee (f := 30) rfl ?_); refine goesL_ (some 9) rfl rfl Try.func30 (by kernel_rfl) rfl #[.int .i64 a1] rfl (by (try simp only [List.map_toArray, List.map_cons, List.map_nil]); first | done | rfl | (simp only [List.length_drop, List.length_take]; rfl)) ?_; (with_reducible refine (rate_May.calls a1 true _ A3.out).mono ?_); rintro e w' ⟨rfl, ⟨nd, rfl⟩⟩; refine ⟨_, rfl, ?_⟩) | (go_at_call 99; (with_reducible refine (rate_back_terms.calls a1 t291 t292 _ A5.out).mono ?_); rintro e w' ⟨rfl, ⟨nd, rfl⟩⟩) | ((with_reducible refine gate_callee (f := 58) rfl ?_); refine goesL_ (some 20) rfl rfl Try.func58 (by kernel_rfl) rfl #[.int .i64 a0, .int .i64 t291, .int .i64 t292, .int .i64 1] rfl (by (try simp only [List.map_toArray, List.map_cons, List.map_nil]); first | done | rfl | (simp only [List.length_drop, List.length_take]; rfl)) ?_; (with_reducible refine (wide_MulDiv.calls k a0 t291 t292 1 t293 t294 _ A6.out).mono ?_); rintro e w7 ⟨rfl, hb⟩; refine ⟨_, rfl, ?_⟩; have n0_ := Aside0.mk (below_step (by repeat (first | (with_reducible first | exact HB.out | apply below_alloc | apply pw_below_drewN | apply below_drew1) | exact HB.out)) hb); clear HB; have HB := n0_; clear n0_; (try clear hb); (try clear hb2); (try clear hk); (try clear hi)))
    go_ret2
    exact ⟨by first | rfl | (simp [errW_none, errW_some] <;> rfl) | (simp [*, errW_none, errW_some] <;> rfl), by repeat (first | (with_reducible first | exact HB.out | apply below_alloc | apply pw_below_drewN | apply below_drew1) | exact HB.out)⟩
  · replace c4 := Bool.eq_false_iff.mpr c4
    subst c4
    have H1 : (some (0, 2)) = some (r1, r2) := by rw [if_neg (show ¬ (false = true) by decide)] at H; exact H
    clear H
    have H := H1
    clear H1
    simp only [Option.some.injEq, Prod.mk.injEq] at H
    obtain ⟨rfl, rfl⟩ := H
    go_enter Try.func40, Try.ntmps40
    go_wp2_with (first | ((with_reducible refine gate_callee (f := 30) rfl ?_); refine goesL_ (some 9) rfl rfl Try.func30 (by kernel_rfl) rfl #[.int .i64 a1] rfl (by (try simp only [List.map_toArray, List.map_cons, List.map_nil]); first | done | rfl | (simp only [List.length_drop, List.length_take]; rfl)) ?_; (with_reducible refine (rate_May.calls a1 false _ A3.out).mono ?_); rintro e w' ⟨rfl, ⟨nd, rfl⟩⟩; refine ⟨_, rfl, ?_⟩))
    go_ret2
    exact ⟨by first | rfl | (simp [errW_none, errW_some] <;> rfl) | (simp [*, errW_none, errW_some] <;> rfl), by repeat (first | (with_reducible first | exact HB.out | apply below_alloc | apply pw_below_drewN | apply below_drew1) | exact HB.out)⟩

end Go.Proofs.Ytalnlphinlfenaa.S
end

section
namespace Go.Proofs.Ytalnlphinlfenaa.S
open Go.RowKit Go.Proofs.YtalnlphinlfenaaW.PrintWords Go.Proofs.YtalnlphinlfenaaW.PrintLast Go.Proofs.YtalnlphinlfenaaW.PrintMore
attribute [local go_sem] max2_int min2_int max_two min_two max_three min_three max_four min_four   -- for this text's walks alone
attribute [local go_sem] Go.Proofs.Ytalnlphinlfenaa.XWalk.cell2
set_option linter.unusedVariables false
set_option linter.unusedSimpArgs false

/-! ### rate_Discount: function 19 -/
def rate_Discount.f (k : Nat) (a0 : Int) (a1 : Int) : Option (Int × Int) := (rate_over_rate_back.f k a0 a1).bind fun bt295 => (some (bt295.1, bt295.2))
theorem rate_Discount.mono : ∀ a0 a1 k, LeO (rate_Discount.f k a0 a1) (rate_Discount.f (k + 1) a0 a1) := by
  intro a0 a1 k
  unfold rate_Discount.f
  repeat' first
      | (with_reducible exact rate_over_rate_back.mono _ _ _)
      | (with_reducible exact LeO.refl _)
      | (with_reducible exact LeO.none _)
      | (with_reducible refine LeO.ite ?_ ?_)
      | (with_reducible refine LeO.bind ?_ (fun _ => ?_))
      | exact rate_over_rate_back.mono _ _ _
      | exact LeO.none _
      | refine LeO.ite ?_ ?_
      | refine LeO.bind ?_ (fun _ => ?_)
set_option maxHeartbeats 8000000 in
set_option maxRecDepth 100000 in
theorem rate_Discount.calls (k : Nat) (a0 : Int) (a1 : Int) (r1 : Int) (r2 : Int) (w : World) (h : rate_Discount.f k a0 a1 = some (r1, r2)) :
    Calls Try.prog 19 #[.int .i64 a0, .int .i64 a1] w fun e w' => e = .returned (.tuple #[.int .i64 r1, .int .i64 r2]) ∧ Below w.heap.size w w' := by
  have HB := Aside0.mk (Below.refl w.heap.size w)
  have H : ((rate_over_rate_back.f k a0 a1).bind fun bt295 => (some (bt295.1, bt295.2))) = some (r1, r2) := h
  clear h
  replace H := Option.bind_eq_some_iff.mp H
  obtain ⟨⟨t295, t296⟩, A30, H⟩ := H
  replace H : (some (t295, t296)) = some (r1, r2) := H
  have A3 := Aside0.mk A30
  clear A30
  simp only [Option.some.injEq, Prod.mk.injEq] at H
  obtain ⟨rfl, rfl⟩ := H
  go_enter Try.func19, Try.ntmps19
  go_wp2_with (first | ((with_reducible refine gate_callee (f := 40) rfl ?_); refine goesL_ (some 8) rfl rfl Try.func40 (by kernel_rfl) rfl #[.int .i64 a0, .int .i64 a1] rfl (by (try simp only [List.map_toArray, List.map_cons, List.map_nil]); first | done | rfl | (simp only [List.length_drop, List.length_take]; rfl)) ?_; (with_reducible refine (rate_over_rate_back.calls k a0 a1 t295 t296 _ A3.out).mono ?_); rintro e w4 ⟨rfl, hb⟩; refine ⟨_, rfl, ?_⟩; have n0_ := Aside0.mk (below_step (by repeat (first | (with_reducible first | exact HB.out | apply below_alloc | apply pw_below_drewN | apply below_drew1) | exact HB.out)) hb); clear HB; have HB := n0_; clear n0_; (try clear hb); (try clear hb2); (try clear hk); (try clear hi)))
  go_ret2
  exact ⟨by first | rfl | (simp [errW_none, errW_some] <;> rfl) | (simp [*, errW_none, errW_some] <;> rfl), by repeat (first | (with_reducible first | exact HB.out | apply below_alloc | apply pw_below_drewN | apply below_drew1) | exact HB.out)⟩

end Go.Proofs.Ytalnlphinlfenaa.S
end

section
namespace Go.Proofs.Ytalnlphinlfenaa.XRate
set_option linter.unusedVariables false
set_option linter.unusedSimpArgs false
open Go.RowKit Go.Proofs.Ytalnlphinlfenaa.S Go.Proofs.Ytalnlphinlfenaa.XNum Go.Proofs.Ytalnlphinlfenaa.XBits Go.Proofs.Ytalnlphinlfenaa.XWide Go.Proofs.Ytalnlphinlfenaa.Rnd Go.Proofs.Ytalnlphinlfenaa.XMdiv Go.Proofs.YtalnlphinlfenaaW.PrintWords

/-- may a rate be? -/
def mayR (r : Int) : Prop := -990000000000 ≤ r ∧ r ≤ 10000000000000
instance (r : Int) : Decidable (mayR r) := inferInstanceAs (Decidable (_ ∧ _))
theorem may (r : Int) : rate_May.f r = some (decide (mayR r)) := by
  unfold rate_May.f
  by_cases c : mayR r
  · rw [decide_eq_true c]
    unfold mayR at c
    rw [if_pos (by omega), decide_eq_true (by omega)]
  · rw [decide_eq_false c]
    unfold mayR at c
    by_cases d : r ≥ -990000000000
    · rw [if_pos d, decide_eq_false (by omega)]
    · rw [if_neg d]

def interest (x r : Int) : Int × Int := if mayR r then mdiv (x * r) 1000000000000 1 else (0, 2)
def grow (x r : Int) : Int × Int := if mayR r then mdiv (x * (1000000000000 + r)) 1000000000000 1 else (0, 2)
def discount (x r : Int) : Int × Int := if mayR r then mdiv (x * 1000000000000) (1000000000000 + r) 1 else (0, 2)

theorem interest_f {x r : Int} (hx : I64 x) {k : Nat} (hk : 30 ≤ k) : rate_Interest.f k x r = some (interest x r) := by
  unfold rate_Interest.f rate_over_rate_yield.f rate_yield_terms.f
  rw [may]
  simp only [Option.bind_some]
  unfold interest
  by_cases c : mayR r
  · rw [decide_eq_true c, if_pos c]
    simp only [if_true]
    unfold mayR at c
    rw [mulDiv hx ⟨by omega, by omega⟩ ⟨by omega, by omega⟩ hk]
    simp only [Option.bind_some]
  · rw [decide_eq_false c, if_neg c]
    simp
theorem discount_f {x r : Int} (hx : I64 x) {k : Nat} (hk : 30 ≤ k) : rate_Discount.f k x r = some (discount x r) := by
  unfold rate_Discount.f rate_over_rate_back.f rate_back_terms.f
  rw [may]
  simp only [Option.bind_some]
  unfold discount
  by_cases c : mayR r
  · rw [decide_eq_true c, if_pos c]
    simp only [if_true]
    unfold mayR at c
    rw [w64 (by omega) (by omega), mulDiv hx ⟨by omega, by omega⟩ ⟨by omega, by omega⟩ hk]
    simp only [Option.bind_some]
  · rw [decide_eq_false c, if_neg c]
    simp
theorem grow_i64 (x r : Int) : I64 (grow x r).1 := by
  unfold grow
  split
  · exact mdiv_i64 _ _ _
  · exact ⟨by omega, by omega⟩
theorem discount_i64 (x r : Int) : I64 (discount x r).1 := by
  unfold discount
  split
  · exact mdiv_i64 _ _ _
  · exact ⟨by omega, by omega⟩
theorem interest_i64 (x r : Int) : I64 (interest x r).1 := by
  unfold interest
  split
  · exact mdiv_i64 _ _ _
  · exact ⟨by omega, by omega⟩

/-- a part of a rate -/
def part (r o all : Int) : Int × Int := if o < 0 ∨ all ≤ 0 then (0, 2) else mdiv (r * o) all 1
/-- what an amount grows to in n periods, or the first error -/
def powers (r : Int) : Nat → Int × Int
  | 0 => (1000000000000, 0)
  | n + 1 => if (powers r n).2 = 0 then grow (powers r n).1 r else powers r n
theorem powers_i64 (r : Int) (n : Nat) : I64 (powers r n).1 := by
  induction n with
  | zero => exact ⟨by show (-9223372036854775808 : Int) ≤ 1000000000000; omega, by show (1000000000000 : Int) ≤ 9223372036854775807; omega⟩
  | succ n ih =>
    unfold powers
    split
    · exact grow_i64 _ _
    · exact ih
/-- an error stays -/
theorem powers_err (r : Int) {n : Nat} (h : (powers r n).2 ≠ 0) : ∀ m, powers r (n + m) = powers r n
  | 0 => rfl
  | m + 1 => by
    rw [← Nat.add_assoc, powers, powers_err r h m, if_neg h]
def power (r n : Int) : Int × Int := if mayR r ∧ 0 ≤ n ∧ n ≤ 600 then powers r n.toNat else (0, 2)
theorem power_ok {r n : Int} (h : mayR r) (h0 : 0 ≤ n) (h1 : n ≤ 600) : power r n = powers r n.toNat := by
  unfold power
  rw [if_pos ⟨h, h0, h1⟩]
theorem power_no {r n : Int} (h : ¬mayR r) : power r n = (0, 2) := by
  unfold power
  rw [if_neg (fun g => h g.1)]
end Go.Proofs.Ytalnlphinlfenaa.XRate
end

section
namespace Go.Proofs.Ytalnlphinlfenaa.XRef02
set_option linter.unusedVariables false
set_option linter.unusedSimpArgs false
open Go.RowKit Go.Proofs.Ytalnlphinlfenaa.S Go.Proofs.Ytalnlphinlfenaa.XNum Go.Proofs.Ytalnlphinlfenaa.XWide Go.Proofs.Ytalnlphinlfenaa.Rnd Go.Proofs.YtalnlphinlfenaaW.PrintWords

theorem up_eq (way : Int) (L : Bool) (N D : Nat) : lombardref02_div.up way L N D = upf way N D L := by
  have e1 : ((N % D : Nat) : Int) = (N : Int) % D := Int.natCast_emod N D
  have e2 : ((N / D : Nat) : Int) = (N : Int) / D := Int.natCast_ediv N D
  unfold lombardref02_div.up upf
  rw [← e1, ← e2]
  by_cases c : way = 0
  · rw [if_pos c, if_pos c]
    congr 1
    exact decide_eq_decide.2 (by omega)
  · rw [if_neg c, if_neg c, Bool.eq_iff_iff]
    simp only [Bool.or_eq_true, Bool.and_eq_true, decide_eq_true_iff]
    omega
theorem Q_eq (way : Int) (L : Bool) (N D : Nat) : ((lombardref02_div.Q way L N D : Nat) : Int) = (N : Int) / D + if upf way N D L = true then 1 else 0 := by
  have e2 : ((N / D : Nat) : Int) = (N : Int) / D := Int.natCast_ediv N D
  unfold lombardref02_div.Q
  rw [up_eq, ← e2]
  split <;> omega
theorem told (way : Int) (L : Bool) (N D : Nat) : (lombardref02_div.r way L N D, lombardref02_div.e way L N D) = toldQ ((lombardref02_div.Q way L N D : Nat) : Int) L := by
  have e : (2 : Nat) ^ 63 = 9223372036854775808 := by decide
  unfold lombardref02_div.r lombardref02_div.e lombardref02_small.v lombardref02_small.ok toldQ
  rw [e]
  generalize lombardref02_div.Q way L N D = Q
  cases L
  · by_cases c : Q < 9223372036854775808
    · have z : ¬(9223372036854775808 < Q ∨ Q = 9223372036854775808 ∧ false = false) := by
        intro h
        rcases h with h | h <;> omega
      rw [if_neg z, if_neg z, if_pos rfl, if_pos rfl, if_neg (by simp), if_neg (by simp), if_pos (by omega)]
    · have z : 9223372036854775808 < Q ∨ Q = 9223372036854775808 ∧ false = false := by
        by_cases d : Q = 9223372036854775808
        · exact .inr ⟨d, rfl⟩
        · exact .inl (by omega)
      rw [if_pos z, if_neg (by simp), if_neg (by simp), if_neg (by simp), if_neg (by omega)]
  · by_cases c : Q ≤ 9223372036854775808
    · have z : ¬(9223372036854775808 < Q ∨ Q = 9223372036854775808 ∧ true = false) := by
        intro h
        rcases h with h | h
        · omega
        · exact absurd h.2 (by simp)
      rw [if_neg z, if_neg z, if_pos rfl, if_pos rfl, if_pos rfl, if_pos rfl, if_pos (by omega)]
    · have z : 9223372036854775808 < Q ∨ Q = 9223372036854775808 ∧ true = false := .inl (by omega)
      rw [if_pos z, if_neg (by simp), if_neg (by simp), if_pos rfl, if_neg (by omega)]
theorem zero {way y : Int} (hy : 0 < y) (L : Bool) : toldQ (0 / y + if upf way 0 y L = true then 1 else 0) L = (0, 0) := by
  have u : upf way 0 y L = false := by
    unfold upf
    rw [Int.zero_emod, Int.zero_ediv]
    split
    · simp
    · exact decide_eq_false (by omega)
  rw [u, Int.zero_ediv]
  unfold toldQ
  cases L <;> simp
theorem v_eq {less : Bool} {N : Nat} {b way : Int} : lombardref02_div.v less N b way = mdiv (if less = true then -(N : Int) else N) b way := by
  unfold lombardref02_div.v
  by_cases c : way ≠ 0 ∧ way ≠ 1
  · rw [if_pos c]
    unfold mdiv
    rw [if_pos (by omega)]
  · rw [if_neg c]
    by_cases z : b = 0
    · rw [if_pos z]
      unfold mdiv
      rw [if_neg (by omega), if_pos z]
    · rw [if_neg z, told, Q_eq]
      have hw : way = 0 ∨ way = 1 := by omega
      have hy : ((b.natAbs : Nat) : Int) = if b < 0 then -b else b := by split <;> omega
      have y0 : (0 : Int) < (b.natAbs : Nat) := by omega
      by_cases n0 : N = 0
      · subst n0
        have t := told_rnd (A := 0) (b := b) (way := way) (X := 0) (y := (b.natAbs : Nat)) hw z (by simp) hy
        rw [zero y0] at t
        have w : (if less = true then -((0 : Nat) : Int) else ((0 : Nat) : Int)) = 0 := by split <;> rfl
        rw [w, ← t]
        exact zero y0 _
      · have A0 : decide ((if less = true then -(N : Int) else (N : Int)) < 0) = less := by
          cases less
          · rw [if_neg (by simp)]
            exact decide_eq_false (by omega)
          · rw [if_pos rfl]
            exact decide_eq_true (by omega)
        have t := told_rnd (A := if less = true then -(N : Int) else (N : Int)) (b := b) (way := way) (X := N) (y := (b.natAbs : Nat)) hw z (by
          cases less
          · rw [if_neg (c := false = true) (by simp), if_neg (by omega)]
          · rw [if_pos (c := true = true) rfl, if_pos (by omega), Int.neg_neg]) hy
        rw [A0] at t
        exact t
theorem mulDiv {a b c way : Int} (ha : I64 a) (hb : I64 b) (hc : I64 c) : lombardref02_MulDiv.f a b c way = some (mdiv (a * b) c way) := by
  unfold lombardref02_MulDiv.f
  rw [if_pos ⟨ha.1, ha.2, hb.1, hb.2, hc.1, hc.2⟩, v_eq]
  congr 2
  have h1 : ((a.natAbs : Nat) : Int) = if a < 0 then -a else a := by split <;> omega
  have h2 : ((b.natAbs : Nat) : Int) = if b < 0 then -b else b := by split <;> omega
  rw [Int.natCast_mul, h1, h2]
  by_cases x : a < 0 <;> by_cases y : b < 0 <;> simp [x, y, Int.neg_mul, Int.mul_neg]
end Go.Proofs.Ytalnlphinlfenaa.XRef02
end

section
namespace Go.Proofs.Ytalnlphinlfenaa.XRefRate
set_option linter.unusedVariables false
set_option linter.unusedSimpArgs false
open Go.RowKit Go.Proofs.Ytalnlphinlfenaa.S Go.Proofs.Ytalnlphinlfenaa.XNum Go.Proofs.Ytalnlphinlfenaa.XBits Go.Proofs.Ytalnlphinlfenaa.XWide Go.Proofs.Ytalnlphinlfenaa.Rnd Go.Proofs.Ytalnlphinlfenaa.XMdiv Go.Proofs.Ytalnlphinlfenaa.XRate Go.Proofs.YtalnlphinlfenaaW.PrintWords

theorem rmay (r : Int) : lombardref03_May.f r = some (decide (mayR r)) := by
  have h := may r
  unfold rate_May.f at h
  unfold lombardref03_May.f
  exact h
theorem near_f {r a b c : Int} (ha : I64 a) (hb : mayR r → I64 b) (hc : mayR r → I64 c) : lombardref03_near.f r a b c = some (if mayR r then mdiv (a * b) c 1 else (0, 2)) := by
  unfold lombardref03_near.f
  rw [rmay]
  simp only [Option.bind_some]
  by_cases d : mayR r
  · rw [decide_eq_true d, if_pos rfl, if_pos d, XRef02.mulDiv ha (hb d) (hc d)]
    rfl
  · rw [decide_eq_false d, if_neg (by simp), if_neg d]
theorem rinterest {x r : Int} (hx : I64 x) : lombardref03_Interest.f x r = some (interest x r) := by
  unfold lombardref03_Interest.f
  rw [near_f hx (fun h => ⟨by unfold mayR at h; omega, by unfold mayR at h; omega⟩) (fun _ => ⟨by omega, by omega⟩)]
  rfl
theorem grow_zero {x r : Int} (h : (grow x r).2 ≠ 0) : (grow x r).1 = 0 := by
  unfold grow at *
  split at h
  · rw [if_pos (by assumption)]
    exact mdiv_err _ _ _ h
  · rw [if_neg (by assumption)]
theorem powers_zero (r : Int) : ∀ n, (powers r n).2 ≠ 0 → (powers r n).1 = 0
  | 0, h => absurd rfl h
  | n + 1, h => by
    unfold powers at *
    split at h
    · rw [if_pos (by assumption)]
      exact grow_zero h
    · rw [if_neg (by assumption)]
      exact powers_zero r n h
end Go.Proofs.Ytalnlphinlfenaa.XRefRate
end

section
namespace Go.Proofs.Ytalnlphinlfenaa.XTable
set_option linter.unusedVariables false
set_option linter.unusedSimpArgs false
open Go.RowKit Go.Proofs.Ytalnlphinlfenaa.S Go.Proofs.Ytalnlphinlfenaa.XNum Go.Proofs.Ytalnlphinlfenaa.XWide Go.Proofs.Ytalnlphinlfenaa.Rnd Go.Proofs.Ytalnlphinlfenaa.XMdiv Go.Proofs.Ytalnlphinlfenaa.XRate Go.Proofs.Ytalnlphinlfenaa.XMoney Go.Proofs.YtalnlphinlfenaaW.PrintWords Go.Proofs.YtalnlphinlfenaaW.PrintLast Go.Proofs.YtalnlphinlfenaaW.PrintMore

abbrev Big (n : Int) : Prop := -4611686018427387904 ≤ n ∧ n ≤ 4611686018427387904
abbrev okc (o i p : Int) : Prop := I64 (o + i) ∧ Big (o + i - p)
theorem within64 (n lo hi : Int) : table_within_int64.f n lo hi = some (decide (lo ≤ n ∧ n ≤ hi)) := by
  unfold table_within_int64.f
  by_cases c : n ≥ lo
  · rw [if_pos c]
    simp [show lo ≤ n from c]
  · rw [if_neg c]
    simp [show ¬ lo ≤ n from c]
theorem withinI (n lo hi : Int) : table_within_int.f n lo hi = some (decide (lo ≤ n ∧ n ≤ hi)) := by
  unfold table_within_int.f
  by_cases c : n ≥ lo
  · rw [if_pos c]
    simp [show lo ≤ n from c]
  · rw [if_neg c]
    simp [show ¬ lo ≤ n from c]
theorem told_pos {n : Int} (h : I64 n) : told n = (n, 0) := told_in h.1 h.2
theorem told_no {n : Int} (h : ¬ I64 n) : told n = (0, 3) := by unfold told; rw [if_neg h]
/-- what a row closes with -/
theorem close_ok {o i p : Int} (ho : I64 o) (hi : I64 i) (hp : I64 p) (h : okc o i p) : table_Row_close.f o i p 0 = some (o + i - p, 0) := by
  unfold table_Row_close.f
  rw [add ho hi, told_pos h.1]
  simp only [Option.bind_some, if_true]
  rw [sub h.1 hp, told_pos (by have := h.2; constructor <;> omega)]
  simp only [Option.bind_some, if_true]
  rw [within64, decide_eq_true h.2]
  rfl
theorem close_no {o i p : Int} (ho : I64 o) (hi : I64 i) (hp : I64 p) (h : ¬ okc o i p) : ∃ v, table_Row_close.f o i p 0 = some (v, 3) := by
  unfold table_Row_close.f
  rw [add ho hi]
  by_cases c : I64 (o + i)
  · rw [told_pos c]
    simp only [Option.bind_some, if_true]
    rw [sub c hp]
    by_cases d : I64 (o + i - p)
    · rw [told_pos d]
      simp only [Option.bind_some, if_true]
      rw [within64, decide_eq_false (fun q => h ⟨c, q⟩)]
      exact ⟨_, rfl⟩
    · rw [told_no d]
      exact ⟨_, rfl⟩
  · rw [told_no c]
    exact ⟨_, rfl⟩
theorem beyond_eq {o i p : Int} (ho : I64 o) (hi : I64 i) (hp : I64 p) : lombardref11_beyond.f o i p 0 = some (!(decide (okc o i p))) := by
  unfold lombardref11_beyond.f
  rw [ref_add ho hi]
  by_cases c : I64 (o + i)
  · rw [told_pos c]
    simp only [Option.bind_some, if_true]
    rw [ref_sub c hp]
    by_cases d : I64 (o + i - p)
    · rw [told_pos d]
      simp only [Option.bind_some, if_true]
      by_cases e : o + i - p > 4611686018427387904
      · rw [if_pos e, decide_eq_false (fun q => by have := q.2; omega)]
        rfl
      · rw [if_neg e]
        by_cases g : o + i - p < -4611686018427387904
        · rw [decide_eq_true g, decide_eq_false (fun q => by have := q.2; omega)]
          rfl
        · rw [decide_eq_false g, decide_eq_true (⟨c, by omega, by omega⟩ : okc o i p)]
          rfl
    · rw [told_no d, decide_eq_false (fun q => d (by have := q.2; constructor <;> omega))]
      rfl
  · rw [told_no c, decide_eq_false (fun q => c q.1)]
    rfl

/-- A loan's way from what is open: its rows, or none and the error. -/
def roll (r : Int) : Int → List Int → List S37 × Int
  | _, [] => ([], 0)
  | o, x :: xs =>
    if xs = [] then ([⟨o, x - o, x, 0⟩], 0) else if (interest o r).2 = 0 then
      (if okc o (interest o r).1 x then (if (roll r (o + (interest o r).1 - x) xs).2 = 0 then (⟨o, (interest o r).1, x, o + (interest o r).1 - x⟩ :: (roll r (o + (interest o r).1 - x) xs).1, 0) else ([], (roll r (o + (interest o r).1 - x) xs).2)) else ([], 3))
    else ([], (interest o r).2)
theorem roll_err (r : Int) : ∀ (l : List Int) (o : Int), (roll r o l).2 ≠ 0 → (roll r o l).1 = [] := by
  intro l
  cases l with
  | nil => intro o h; exact absurd rfl h
  | cons x xs =>
    intro o h
    unfold roll at h ⊢
    split at h
    · exact absurd rfl h
    · rename_i c0
      rw [if_neg c0]
      split at h
      · rename_i c1
        rw [if_pos c1]
        split at h
        · rename_i c2
          rw [if_pos c2]
          split at h
          · exact absurd rfl h
          · rename_i c3
            rw [if_neg c3]
        · rename_i c2
          rw [if_neg c2]
      · rename_i c1
        rw [if_neg c1]
theorem roll_len (r : Int) : ∀ (l : List Int) (o : Int), (roll r o l).2 = 0 → (roll r o l).1.length = l.length := by
  intro l
  induction l with
  | nil => intro o _; rfl
  | cons x xs ih =>
    intro o h
    unfold roll at h ⊢
    by_cases c0 : xs = []
    · rw [if_pos c0]
      subst c0
      rfl
    · rw [if_neg c0] at h ⊢
      by_cases c1 : (interest o r).2 = 0
      · rw [if_pos c1] at h ⊢
        by_cases c2 : okc o (interest o r).1 x
        · rw [if_pos c2] at h ⊢
          by_cases c3 : (roll r (o + (interest o r).1 - x) xs).2 = 0
          · rw [if_pos c3]
            simp only [List.length_cons, ih _ c3]
          · rw [if_neg c3] at h
            exact absurd h c3
        · rw [if_neg c2] at h
          exact absurd h (by decide)
      · rw [if_neg c1] at h
        exact absurd h c1
abbrev Amt (x : Int) : Prop := 0 ≤ x ∧ x ≤ 10000000000000
theorem rd_drop {l : List Int} {i : Nat} {x : Int} {xs : List Int} (h : l.drop i = x :: xs) : i < l.length ∧ rd l (i : Int) = x ∧ l.drop (i + 1) = xs := by
  have hi : i < l.length := by
    rcases Nat.lt_or_ge i l.length with c | c
    · exact c
    · rw [List.drop_eq_nil_of_le c] at h
      cases h
  rw [List.drop_eq_getElem_cons hi] at h
  have h1 := (List.cons.inj h).1
  have h2 := (List.cons.inj h).2
  refine ⟨hi, ?_, h2⟩
  rw [← h1]
  unfold rd
  simp [hi]

theorem scan_l0 {l : List Int} {r : Int} (hl : ∀ x ∈ l, Amt x) (hn : l.length ≤ 700) : ∀ (xs : List Int) (i : Nat) (acc : List S37) (o a b c : Int) (k : Nat), l.drop i = xs → acc.length ≤ i → Big o → xs.length + 40 ≤ k →
    table_scan_int64_table_Row__table_Roll_1.l0 k acc l l.length i l r a b c o = some (if (roll r o xs).2 = 0 then (acc ++ (roll r o xs).1, 0) else ([], (roll r o xs).2)) := by
  intro xs
  induction xs with
  | nil =>
    intro i acc o a b c k hd _ _ hk
    obtain ⟨k, rfl⟩ : ∃ m, k = m + 1 := ⟨k - 1, by omega⟩
    have hi : l.length ≤ i := List.drop_eq_nil_iff.mp hd
    simp only [table_scan_int64_table_Row__table_Roll_1.l0]
    rw [if_neg (by omega)]
    simp [roll]
  | cons x xs ih =>
    intro i acc o a b c k hd ha ho hk
    obtain ⟨k, rfl⟩ : ∃ m, k = m + 1 := ⟨k - 1, by omega⟩
    obtain ⟨hi, hx, hd'⟩ := rd_drop hd
    have hxl : x ∈ l := by
      have : x ∈ l.drop i := by rw [hd]; exact List.mem_cons_self ..
      exact List.mem_of_mem_drop this
    have hxa := hl x hxl
    have io : I64 o := by constructor <;> omega
    have ix : I64 x := by constructor <;> omega
    have ln : xs = [] ↔ i = l.length - 1 := by
      rw [← hd', List.drop_eq_nil_iff]
      omega
    simp only [table_scan_int64_table_Row__table_Roll_1.l0, table_Roll_1.f]
    rw [if_pos (by omega), if_pos (by omega), if_pos (by omega), hx, w64 (n := (l.length : Int) - 1) (by omega) (by omega), w64 (n := (i : Int) + 1) (by omega) (by omega)]
    unfold roll
    by_cases c0 : xs = []
    · have e := ln.mp c0
      rw [if_pos (by omega), if_pos c0]
      simp only [Option.bind_some, if_true]
      rw [if_pos (by omega), w64 (n := x - o) (by omega) (by omega), show (i : Int) + 1 = ((i + 1 : Nat) : Int) by omega, ih (i + 1) _ _ _ _ _ k hd' (by simp; omega) (by constructor <;> omega) (by simp at hk; omega)]
      subst c0
      simp [roll]
    · have e : ¬ i = l.length - 1 := fun h => c0 (ln.mpr h)
      rw [if_neg (by omega), if_neg c0, interest_f io (by omega)]
      simp only [Option.bind_some]
      by_cases c1 : (interest o r).2 = 0
      · rw [if_pos c1, if_pos c1]
        have ii := interest_i64 o r
        by_cases c2 : okc o (interest o r).1 x
        · rw [close_ok io ii ix c2, if_pos c2]
          simp only [Option.bind_some, if_true]
          rw [if_pos (by omega), show (i : Int) + 1 = ((i + 1 : Nat) : Int) by omega, ih (i + 1) _ _ _ _ _ k hd' (by simp; omega) c2.2 (by simp at hk; omega)]
          by_cases c3 : (roll r (o + (interest o r).1 - x) xs).2 = 0
          · rw [if_pos c3, if_pos c3]
            simp
          · rw [if_neg c3, if_neg c3, if_neg c3]
        · obtain ⟨v, hv⟩ := close_no io ii ix c2
          rw [hv, if_neg c2]
          rfl
      · rw [if_neg c1, if_neg c1]
        simp only [Option.bind_some]
        rw [if_neg c1, if_neg c1]

theorem check_l0 {o r : Int} {l : List Int} (hn : l.length ≤ 700) : ∀ (xs : List Int) (i : Nat) (k : Nat), l.drop i = xs → xs.length + 1 ≤ k →
    table_Roll.l0 k o l l.length i l r = if ∀ x ∈ xs, Amt x then (table_scan_int64_table_Row__table_Roll_1.f (k - xs.length - 1) l 0 0 0 o l r).bind fun b => some (b.1, b.2) else some ([], 2) := by
  intro xs
  induction xs with
  | nil =>
    intro i k hd hk
    obtain ⟨k, rfl⟩ : ∃ m, k = m + 1 := ⟨k - 1, by omega⟩
    have hi : l.length ≤ i := List.drop_eq_nil_iff.mp hd
    simp only [table_Roll.l0]
    rw [if_neg (by omega), if_pos (by simp)]
    rfl
  | cons x xs ih =>
    intro i k hd hk
    obtain ⟨k, rfl⟩ : ∃ m, k = m + 1 := ⟨k - 1, by omega⟩
    obtain ⟨hi, hx, hd'⟩ := rd_drop hd
    simp only [table_Roll.l0]
    rw [if_pos (by omega), if_pos (by omega), if_pos (by omega), hx, within64, Option.bind_some, w64 (n := (i : Int) + 1) (by omega) (by omega)]
    by_cases c : Amt x
    · rw [decide_eq_true c, if_pos rfl, show (i : Int) + 1 = ((i + 1 : Nat) : Int) by omega, ih (i + 1) k hd' (by simp at hk; omega)]
      by_cases d : ∀ y ∈ xs, Amt y
      · rw [if_pos d, if_pos (List.forall_mem_cons.mpr ⟨c, d⟩)]
        rw [show k + 1 - (x :: xs).length - 1 = k - xs.length - 1 by simp]
      · rw [if_neg d, if_neg (fun h => d (List.forall_mem_cons.mp h).2)]
    · rw [decide_eq_false c, if_neg (by simp), if_neg (fun h => c (h x (List.mem_cons_self ..)))]

def valid (o : Int) (l : List Int) (r : Int) : Prop := (1 ≤ l.length ∧ l.length ≤ 600) ∧ (1 ≤ o ∧ o ≤ 10000000000000) ∧ mayR r ∧ ∀ x ∈ l, Amt x
instance (o : Int) (l : List Int) (r : Int) : Decidable (valid o l r) := inferInstanceAs (Decidable (_ ∧ _ ∧ _ ∧ _))
def tab (o : Int) (l : List Int) (r : Int) : List S37 × Int := if valid o l r then roll r o l else ([], 2)
theorem roll_f {o r : Int} {l : List Int} (hn : l.length ≤ 700) {k : Nat} (hk : 2 * l.length + 100 ≤ k) : table_Roll.f k o l r = some (tab o l r) := by
  unfold table_Roll.f tab
  rw [withinI, Option.bind_some]
  obtain ⟨k, rfl⟩ : ∃ m, k = m + 1 := ⟨k - 1, by omega⟩
  by_cases c1 : 1 ≤ l.length ∧ l.length ≤ 600
  · rw [decide_eq_true (by omega), if_pos rfl, within64, Option.bind_some]
    by_cases c2 : 1 ≤ o ∧ o ≤ 10000000000000
    · rw [decide_eq_true c2, if_pos rfl, XRate.may, Option.bind_some]
      by_cases c3 : mayR r
      · rw [decide_eq_true c3]
        simp only [Bool.not_true, table_Roll.j0, Bool.false_eq_true, if_false]
        rw [show (0 : Int) = ((0 : Nat) : Int) from rfl, check_l0 hn l 0 k rfl (by omega)]
        by_cases c4 : ∀ x ∈ l, Amt x
        · rw [if_pos c4, if_pos ⟨c1, c2, c3, c4⟩]
          unfold table_scan_int64_table_Row__table_Roll_1.f
          rw [show (0 : Int) = ((0 : Nat) : Int) from rfl, scan_l0 c4 hn l 0 [] o _ _ _ _ rfl (by simp) (by constructor <;> omega) (by omega), Option.bind_some]
          by_cases c5 : (roll r o l).2 = 0
          · rw [if_pos c5, List.nil_append, ← c5]
          · rw [if_neg c5]
            show some (([] : List S37), (roll r o l).2) = _
            rw [← roll_err r l o c5]
        · rw [if_neg c4, if_neg (fun h => c4 h.2.2.2)]
      · rw [decide_eq_false c3, if_neg (fun h => c3 h.2.2.1)]
        rfl
    · rw [decide_eq_false c2, if_neg (by simp), if_neg (fun h => c2 h.2.1)]
      rfl
  · rw [decide_eq_false (by omega), if_neg (by simp), if_neg (fun h => c1 h.1)]
    rfl

-- ------------------------------------------------ the document's
def conv (x : S37) : S59 := ⟨x.f0, x.f1, x.f2, x.f3⟩
theorem ref_l1 {l : List Int} {r : Int} (hr : mayR r) (hl : ∀ x ∈ l, Amt x) (hn : l.length ≤ 700) : ∀ (xs : List Int) (i : Nat) (acc : List S59) (o : Int) (k : Nat), l.drop i = xs → acc.length ≤ i → Big o → xs.length + 40 ≤ k →
    lombardref11_Roll.l1 k l r acc o l l.length i = some (if (roll r o xs).2 = 0 then (acc ++ (roll r o xs).1.map conv, 0) else ([], (roll r o xs).2)) := by
  intro xs
  induction xs with
  | nil =>
    intro i acc o k hd _ _ hk
    obtain ⟨k, rfl⟩ : ∃ m, k = m + 1 := ⟨k - 1, by omega⟩
    have hi : l.length ≤ i := List.drop_eq_nil_iff.mp hd
    simp only [lombardref11_Roll.l1]
    rw [if_neg (by omega)]
    simp [roll]
  | cons x xs ih =>
    intro i acc o k hd ha ho hk
    obtain ⟨k, rfl⟩ : ∃ m, k = m + 1 := ⟨k - 1, by omega⟩
    obtain ⟨hi, hx, hd'⟩ := rd_drop hd
    have hxl : x ∈ l := by
      have : x ∈ l.drop i := by rw [hd]; exact List.mem_cons_self ..
      exact List.mem_of_mem_drop this
    have hxa := hl x hxl
    have io : I64 o := by constructor <;> omega
    have ix : I64 x := by constructor <;> omega
    have ln : xs = [] ↔ i = l.length - 1 := by
      rw [← hd', List.drop_eq_nil_iff]
      omega
    simp only [lombardref11_Roll.l1]
    rw [if_pos (by omega), if_pos (by omega), if_pos (by omega), hx, w64 (n := (l.length : Int) - 1) (by omega) (by omega), w64 (n := (i : Int) + 1) (by omega) (by omega)]
    unfold roll
    by_cases c0 : xs = []
    · have e := ln.mp c0
      rw [if_pos (by omega), if_pos c0, w64 (n := x - o) (by omega) (by omega), beyond_eq io (by constructor <;> omega) ix, decide_eq_true (by constructor <;> constructor <;> omega), w64 (n := o + (x - o)) (by omega) (by omega), w64 (n := o + (x - o) - x) (by omega) (by omega)]
      simp only [Option.bind_some, Bool.not_true, Bool.false_eq_true, if_false]
      rw [if_pos (by omega), show (i : Int) + 1 = ((i + 1 : Nat) : Int) by omega, ih (i + 1) _ _ k hd' (by simp; omega) (by constructor <;> omega) (by simp at hk; omega)]
      subst c0
      simp [roll, conv]
      omega
    · have e : ¬ i = l.length - 1 := fun h => c0 (ln.mpr h)
      rw [if_neg (by omega), if_neg c0, XRefRate.rinterest io]
      simp only [Option.bind_some]
      by_cases c1 : (interest o r).2 = 0
      · rw [if_pos c1, if_pos c1]
        have ii := interest_i64 o r
        rw [beyond_eq io ii ix, Option.bind_some]
        by_cases c2 : okc o (interest o r).1 x
        · obtain ⟨d1, d2⟩ := id c2
          rw [decide_eq_true c2, if_pos c2, w64 (n := o + (interest o r).1) d1.1 d1.2, w64 (n := o + (interest o r).1 - x) (by omega) (by omega)]
          simp only [Bool.not_true, Bool.false_eq_true, if_false]
          rw [if_pos (by omega), show (i : Int) + 1 = ((i + 1 : Nat) : Int) by omega, ih (i + 1) _ _ k hd' (by simp; omega) c2.2 (by simp at hk; omega)]
          by_cases c3 : (roll r (o + (interest o r).1 - x) xs).2 = 0
          · rw [if_pos c3, if_pos c3]
            simp [conv]
          · rw [if_neg c3, if_neg c3, if_neg c3]
        · rw [decide_eq_false c2, if_neg c2]
          rfl
      · rw [if_neg c1, if_neg c1]
        simp only []
        rw [if_neg c1]
theorem ref_l0 {o r : Int} {l : List Int} (hn : l.length ≤ 700) : ∀ (xs : List Int) (i : Nat) (k : Nat), l.drop i = xs → xs.length + 1 ≤ k →
    lombardref11_Roll.l0 k o l r l l.length i = if ∀ x ∈ xs, Amt x then lombardref11_Roll.l1 (k - xs.length - 1) l r [] o l l.length 0 else some ([], 2) := by
  intro xs
  induction xs with
  | nil =>
    intro i k hd hk
    obtain ⟨k, rfl⟩ : ∃ m, k = m + 1 := ⟨k - 1, by omega⟩
    have hi : l.length ≤ i := List.drop_eq_nil_iff.mp hd
    simp only [lombardref11_Roll.l0]
    rw [if_neg (by omega), if_pos (by simp)]
    rfl
  | cons x xs ih =>
    intro i k hd hk
    obtain ⟨k, rfl⟩ : ∃ m, k = m + 1 := ⟨k - 1, by omega⟩
    obtain ⟨hi, hx, hd'⟩ := rd_drop hd
    simp only [lombardref11_Roll.l0]
    rw [if_pos (by omega), if_pos (by omega), if_pos (by omega), hx, w64 (n := (i : Int) + 1) (by omega) (by omega)]
    by_cases c0 : x < 0
    · rw [if_pos c0, if_neg (fun h => by have := (h x (List.mem_cons_self ..)).1; omega)]
    · rw [if_neg c0]
      by_cases c1 : x > 10000000000000
      · rw [if_pos c1, if_neg (fun h => by have := (h x (List.mem_cons_self ..)).2; omega)]
      · rw [if_neg c1, show (i : Int) + 1 = ((i + 1 : Nat) : Int) by omega, ih (i + 1) k hd' (by simp at hk; omega)]
        by_cases d : ∀ y ∈ xs, Amt y
        · rw [if_pos d, if_pos (List.forall_mem_cons.mpr ⟨⟨by omega, by omega⟩, d⟩)]
          rw [show k + 1 - (x :: xs).length - 1 = k - xs.length - 1 by simp]
        · rw [if_neg d, if_neg (fun h => d (List.forall_mem_cons.mp h).2)]
theorem ref_f {o r : Int} {l : List Int} (hn : l.length ≤ 700) {k : Nat} (hk : 2 * l.length + 100 ≤ k) : lombardref11_Roll.f k o l r = some ((tab o l r).1.map conv, (tab o l r).2) := by
  unfold lombardref11_Roll.f tab
  obtain ⟨k, rfl⟩ : ∃ m, k = m + 1 := ⟨k - 1, by omega⟩
  have no : ¬ valid o l r → some (([] : List S59), (2 : Int)) = some (((if valid o l r then roll r o l else ([], 2)) : List S37 × Int).1.map conv, ((if valid o l r then roll r o l else ([], 2)) : List S37 × Int).2) := fun h => by rw [if_neg h]; rfl
  by_cases a1 : (l.length : Int) < 1
  · rw [if_pos a1]
    exact no fun h => by have := h.1; omega
  rw [if_neg a1]
  by_cases a2 : (l.length : Int) > 600
  · rw [if_pos a2]
    exact no fun h => by have := h.1; omega
  rw [if_neg a2]
  by_cases a3 : o < 1
  · rw [if_pos a3]
    exact no fun h => by have := h.2.1; omega
  rw [if_neg a3]
  by_cases a4 : o > 10000000000000
  · rw [if_pos a4]
    exact no fun h => by have := h.2.1; omega
  rw [if_neg a4, XRefRate.rmay, Option.bind_some]
  by_cases c3 : mayR r
  · rw [decide_eq_true c3]
    simp only [Bool.not_true, lombardref11_Roll.j0, Bool.false_eq_true, if_false]
    rw [show (0 : Int) = ((0 : Nat) : Int) from rfl, ref_l0 hn l 0 k rfl (by omega)]
    by_cases c4 : ∀ x ∈ l, Amt x
    · have hv : valid o l r := ⟨⟨by omega, by omega⟩, ⟨by omega, by omega⟩, c3, c4⟩
      rw [if_pos c4, if_pos hv, show (0 : Int) = ((0 : Nat) : Int) from rfl, ref_l1 c3 c4 hn l 0 [] o _ rfl (by simp) (by constructor <;> omega) (by omega)]
      by_cases c5 : (roll r o l).2 = 0
      · rw [if_pos c5, List.nil_append, c5]
      · rw [if_neg c5, roll_err r l o c5]
        rfl
    · rw [if_neg c4]
      exact no fun h => c4 h.2.2.2
  · rw [decide_eq_false c3]
    exact no fun h => c3 h.2.2.1

-- ------------------------------------------------ rows, from one to the other; the same rows
theorem rd37 {l : List S37} {i : Nat} (h : i < l.length) : rd_T37 l (i : Int) = l[i] := by
  unfold rd_T37
  simp [h]
theorem rd61 {l : List S59} {i : Nat} (h : i < l.length) : rd_T59 l (i : Int) = l[i] := by
  unfold rd_T59
  simp [h]
theorem from_l0 {l : List S37} (hn : l.length ≤ 1000) : ∀ (d i : Nat) (acc : List S59) (k : Nat), i + d = l.length → acc.length ≤ i → d + 1 ≤ k → lombardlaw11_from.l0 k acc l l.length i = some (acc ++ (l.drop i).map conv) := by
  intro d
  induction d with
  | zero =>
    intro i acc k hi _ hk
    obtain ⟨k, rfl⟩ : ∃ m, k = m + 1 := ⟨k - 1, by omega⟩
    simp only [lombardlaw11_from.l0]
    rw [if_neg (by omega), List.drop_eq_nil_of_le (by omega)]
    simp
  | succ d ih =>
    intro i acc k hi ha hk
    obtain ⟨k, rfl⟩ : ∃ m, k = m + 1 := ⟨k - 1, by omega⟩
    have hlt : i < l.length := by omega
    simp only [lombardlaw11_from.l0]
    rw [if_pos (by omega), if_pos (by omega), if_pos (by omega), if_pos (by omega), rd37 hlt, w64 (n := (i : Int) + 1) (by omega) (by omega), show (i : Int) + 1 = ((i + 1 : Nat) : Int) by omega, ih (i + 1) _ k (by omega) (by simp; omega) (by omega), List.drop_eq_getElem_cons hlt]
    simp only [List.map_cons, List.append_assoc, List.singleton_append]
    rfl
theorem from_f {l : List S37} (hn : l.length ≤ 1000) {k : Nat} (hk : 1001 ≤ k) : lombardlaw11_from.f k l = some (l.map conv) := by
  unfold lombardlaw11_from.f
  rw [show (0 : Int) = ((0 : Nat) : Int) from rfl, from_l0 hn l.length 0 [] k (by omega) (by simp) (by omega)]
  simp
theorem same_l0 {l : List S59} (hn : l.length ≤ 1000) : ∀ (d i k : Nat), i + d = l.length → d + 1 ≤ k → lombardref11_Same.l0 k l l l.length i = some true := by
  intro d
  induction d with
  | zero =>
    intro i k hi hk
    obtain ⟨k, rfl⟩ : ∃ m, k = m + 1 := ⟨k - 1, by omega⟩
    simp only [lombardref11_Same.l0]
    rw [if_neg (by omega)]
  | succ d ih =>
    intro i k hi hk
    obtain ⟨k, rfl⟩ : ∃ m, k = m + 1 := ⟨k - 1, by omega⟩
    simp only [lombardref11_Same.l0]
    rw [if_pos (by omega), if_pos (by omega), if_pos (by omega), if_pos (by omega), w64 (n := (i : Int) + 1) (by omega) (by omega), show (i : Int) + 1 = ((i + 1 : Nat) : Int) by omega]
    simp only [beq_self_eq_true, Bool.not_true, Bool.or_self, Bool.false_eq_true, if_false]
    exact ih (i + 1) k (by omega) (by omega)
theorem same_self {l : List S59} (hn : l.length ≤ 1000) {k : Nat} (hk : 1001 ≤ k) : lombardref11_Same.f k l l = some true := by
  unfold lombardref11_Same.f
  rw [if_pos rfl, show (0 : Int) = ((0 : Nat) : Int) from rfl, same_l0 hn l.length 0 k (by omega) (by omega)]
theorem tab_len {o r : Int} {l : List Int} (hn : l.length ≤ 700) : (tab o l r).1.length ≤ 700 := by
  unfold tab
  split
  · by_cases c : (roll r o l).2 = 0
    · rw [roll_len r l o c]
      exact hn
    · rw [roll_err r l o c]
      exact Nat.zero_le _
  · exact Nat.zero_le _

-- ------------------------------------------------ the plug
def plugV (l : List S37) (r : Int) : Int × Int :=
  if h : 0 < l.length then (if mayR r then (if (interest l[l.length - 1].f0 r).2 = 0 then told (l[l.length - 1].f1 - (interest l[l.length - 1].f0 r).1) else (0, (interest l[l.length - 1].f0 r).2)) else (0, 2)) else (0, 8)
theorem plug {l : List S37} {r : Int} (hl : ∀ x ∈ l, I64 x.f0 ∧ I64 x.f1) (hn : l.length ≤ 1000) {k : Nat} (hk : 40 ≤ k) : table_Plug.f k l r = some (plugV l r) := by
  unfold table_Plug.f plugV
  by_cases c : 0 < l.length
  · rw [if_neg (by omega), dif_pos c, XRate.may, Option.bind_some]
    by_cases c3 : mayR r
    · obtain ⟨h0, h1⟩ := hl l[l.length - 1] (List.getElem_mem _)
      rw [decide_eq_true c3, if_pos rfl, if_pos c3, w64 (n := (l.length : Int) - 1) (by omega) (by omega), if_pos (by omega), if_pos (by omega), show (l.length : Int) - 1 = ((l.length - 1 : Nat) : Int) by omega, rd37 (by omega), interest_f h0 (by omega), Option.bind_some]
      by_cases c4 : (interest l[l.length - 1].f0 r).2 = 0
      · rw [if_pos c4, if_pos c4, sub h1 (interest_i64 _ _), Option.bind_some]
      · rw [if_neg c4, if_neg c4]
    · rw [decide_eq_false c3, if_neg (by simp), if_neg c3]
  · rw [if_pos (by omega), dif_neg c]
theorem alive {k : Nat} (hk : 2000 ≤ k) : lombardlaw11_alive.f k = some true := by
  have i1 : interest 1000 100000000000 = (100, 0) := by decide +kernel
  have i2 : interest 600 100000000000 = (60, 0) := by decide +kernel
  have v : valid 1000 [500, 605] 100000000000 := ⟨by decide, by decide, by decide, by decide⟩
  have t : tab 1000 [500, 605] 100000000000 = ([⟨1000, 100, 500, 600⟩, ⟨600, 5, 605, 0⟩], 0) := by
    unfold tab
    rw [if_pos v]
    have e : roll 100000000000 (1000 + 100 - 500) [605] = ([⟨600, 5, 605, 0⟩], 0) := rfl
    unfold roll
    rw [i1, if_neg (by decide), if_pos rfl, if_pos (by decide)]
    simp only [e, if_true]
    rfl
  unfold lombardlaw11_alive.f
  rw [roll_f (by decide) (by simp; omega), t, Option.bind_some, plug (by decide) (by decide) (by omega)]
  have p : plugV [⟨1000, 100, 500, 600⟩, ⟨600, 5, 605, 0⟩] 100000000000 = (-55, 0) := by
    unfold plugV
    rw [dif_pos (by decide), if_pos (by decide)]
    simp only [List.length_cons, List.length_nil, List.getElem_cons_succ, List.getElem_cons_zero, i2]
    decide
  rw [p]
  simp only [Option.bind_some, if_true]
  rw [from_f (by decide) (by omega), Option.bind_some]
  show (lombardref11_Same.f k [⟨1000, 100, 500, 600⟩, ⟨600, 5, 605, 0⟩] [⟨1000, 100, 500, 600⟩, ⟨600, 5, 605, 0⟩]).bind _ = _
  rw [same_self (by decide) (by omega)]
  decide
end Go.Proofs.Ytalnlphinlfenaa.XTable
end

section
namespace Go.Proofs.Ytalnlphinlfenaa.Pure
set_option linter.unusedVariables false
set_option linter.unusedSimpArgs false
open Go.RowKit Go.Proofs.Ytalnlphinlfenaa.S Go.Proofs.Ytalnlphinlfenaa.XNum Go.Proofs.Ytalnlphinlfenaa.XWide Go.Proofs.Ytalnlphinlfenaa.Rnd Go.Proofs.Ytalnlphinlfenaa.XMdiv Go.Proofs.Ytalnlphinlfenaa.XRate Go.Proofs.Ytalnlphinlfenaa.XTable Go.Proofs.YtalnlphinlfenaaW.PrintWords Go.Proofs.YtalnlphinlfenaaW.PrintLast Go.Proofs.YtalnlphinlfenaaW.PrintMore

theorem TableRolls : lombardlaw11_TableRolls.Pure := by
  intro o l r _ _ _ _ _
  refine ⟨3000, ?_⟩
  unfold lombardlaw11_TableRolls.f
  rw [alive (by omega), Option.bind_some, if_pos rfl]
  by_cases c : (l.length : Int) > 700
  · rw [if_pos c]
  · have hn : l.length ≤ 700 := by omega
    have ht := tab_len (o := o) (r := r) hn
    rw [if_neg c, roll_f hn (by omega), ref_f hn (by omega)]
    simp only [Option.bind_some]
    rw [from_f (by omega) (by omega), Option.bind_some, same_self (by rw [List.length_map]; omega) (by omega)]
    simp only [Option.bind_some, if_true, beq_self_eq_true]
end Go.Proofs.Ytalnlphinlfenaa.Pure
end

section
namespace Go.Proofs.YtalnlphinlfenaaW.PrintWords
open Go.ChangeShapes Go.WideShapes
/-- A row's slice of whole numbers is no longer than its weight allows. -/
theorem sized_ints {H : Type} {enc : TypeId × Value → H} {P : Program} {W : World} {base : Nat} {spare : Nat → Bool} {held : Bool} {t e : TypeId} {k : IntKind} {a : Option Addr} {len cap : Nat} {d : DataW H} {ps : List MemPlace} {ts : List TypeId} {ds : List (DataW H)} {j : Nat}
    (hsz : (DataW.weightsEach P ts ds).all (· ≤ reachBytes) = true) (ht : ts[j]? = some t) (hd : ds[j]? = some d) (hu : P.underlying t = some (.slice e)) (he : P.underlying e = some (.int k)) (hc : P.cellsOf e = 1) {B : Nat} (hB : P.bytesOf e = B)
    (h : DataW.Trod enc P W base spare held t (.slice a len cap) d ps) : len * B ≤ 140737488351232 := by
  obtain ⟨fuel, hf⟩ := h
  rcases open_ints hu he hc hf with ⟨hcs, _⟩ | ⟨x, l, c, zs, hcs, _, hl, _, hz, hx, _, _⟩
  · simp [Value.cells] at hcs
    obtain ⟨rfl, rfl, rfl⟩ := hcs
    simp
  · simp [Value.cells] at hcs
    obtain ⟨rfl, rfl, rfl⟩ := hcs
    obtain ⟨hx, _⟩ := Prod.mk.inj hx
    subst hx
    have z := sized_slice hsz ht hd hu
    rw [hB] at z
    have hl2 : len ≤ zs.length := by
      rw [hz]
      split
      · exact hl
      · exact Nat.le_refl _
    have h1 : (lits (H := H) k (zs.take len)).length + (lits (H := H) k (zs.drop len)).length = zs.length := by
      simp [lits]
      omega
    rw [h1] at z
    exact Nat.le_trans (Nat.mul_le_mul_right _ hl2) z
end Go.Proofs.YtalnlphinlfenaaW.PrintWords
end

section
namespace Go.Proofs.Ytalnlphinlfenaa.tableRolls
open Go.ChangeShapes Go.WideShapes Go.ChangeAt Go.RowKit
open Go.ChangeMaps (open_string shut_string)
set_option linter.unusedVariables false
theorem own : ownKnob Try.prog.godebug = none := by kernel_rfl
theorem laidOut : laidOutB Try.prog = true := by kernel_rfl
def IsRow (k : IntKind) (w : World) (a : Option Addr) (len cap : Nat) (zs : List Int) : Prop :=
  (a = none ∧ len = 0 ∧ cap = 0 ∧ zs = []) ∨
  ∃ x, a = some x ∧ len ≤ cap ∧ cap ≤ maxLen ∧ zs.length = cap ∧ (∀ i, i < zs.length → w.cell? (x.add i) = some (.int k (zs.getD i 0))) ∧ ∀ n ∈ zs, (Lit.int k n).wf = true
set_option maxRecDepth 100000 in
theorem lifted (os : Os) (started : os.Started) (H : Type) (enc : TypeId × Value → H) :
    ReturnsInHanded {} Try.checked os 3 .any (Rows.tableRollsSpec.pre6 enc Try.prog Try.f3 Rows.tableRollsRow.domain false) (Rows.tableRollsSpec.post enc Try.prog Try.f3 false true false false) := by
  refine returnsInHanded_of_change_sized (C := Try.checked) own started (by kernel_rfl) Try.func3
    (ChangeSpec.witness6 (enc := enc) (C := Try.checked) false ⟨#[], #[.int .i64 0, .slice none 0 0, .int .i64 0], []⟩ 8 (by kernel_rfl) (by kernel_rfl) (by kernel_rfl) (by kernel_rfl)) ?_
  intro W base args ds gs before hval0 hW hcnd hsz0 _
  have hsz : (DataW.weightsEach Try.prog (Try.f3.params.toList ++ Rows.tableRollsSpec.plain.varTypes Try.prog) (ds ++ gs)).all (· ≤ reachBytes) = true := hsz0
  have hval : ∀ (j : Nat) t v, Try.f3.params[j]? = some t → args[j]? = some v → Value.okWide Try.prog W .any base t v := hval0
  have hW' := hW
  obtain ⟨p, q, hA0, hV, rfl, hfz, hnd⟩ := hW
  have hA : DataW.TrodAll enc Try.prog W 0 (fun _ => true) true Try.f3.params.toList args.toList ds p := hA0
  rw [Try.params3] at hA hval hsz
  obtain ⟨v0, vs0, d0, ds0, p0, q0, hargs, rfl, rfl, h0, r0⟩ := trodAll_cons hA
  obtain ⟨v1, vs1, d1, ds1, p1, q1, rfl, rfl, rfl, h1, r1⟩ := trodAll_cons r0
  obtain ⟨v2, vs2, d2, ds2, p2, q2, rfl, rfl, rfl, h2, r2⟩ := trodAll_cons r1
  obtain ⟨rfl, rfl, rfl⟩ := trodAll_nil r2
  obtain rfl : args = #[v0, v1, v2] := by cases args; simp_all
  obtain ⟨rfl, rfl⟩ := trodVars_none hV
  obtain ⟨a0, rfl, rfl, rfl, w0⟩ := open_int Try.underlying2 (hval 0 2 v0 rfl rfl) h0
  obtain ⟨a1, len1, cap1, rfl⟩ := okWide_slice Try.underlying22 (hval 1 22 v1 rfl rfl)
  have k1 := h1
  have lt1 : ∀ x ∈ p1, x.block < W.heap.size := by obtain ⟨m, hm⟩ := k1; exact DataW.trod_lt m _ _ _ hm
  obtain ⟨z1, w1⟩ : ∃ zs, IsRow .i64 W a1 len1 cap1 zs := by
    obtain ⟨fuel, hf⟩ := h1
    rcases open_ints Try.underlying22 Try.underlying2 (by kernel_rfl) hf with ⟨hcs, _⟩ | ⟨x, l, c, zs, hcs, _, hl, hm, hz, _, hcell, hwz⟩
    · simp [Value.cells] at hcs
      obtain ⟨rfl, rfl, rfl⟩ := hcs
      exact ⟨[], .inl ⟨rfl, rfl, rfl, rfl⟩⟩
    · simp [Value.cells] at hcs
      obtain ⟨rfl, rfl, rfl⟩ := hcs
      exact ⟨zs, .inr ⟨_, rfl, hl, hm, by simpa using hz, hcell, hwz⟩⟩
  have y1 : len1 * 8 ≤ 140737488351232 := Go.Proofs.YtalnlphinlfenaaW.PrintWords.sized_ints hsz (j := 1) (t := 22) rfl rfl Try.underlying22 Try.underlying2 (by kernel_rfl) (by kernel_rfl) h1
  obtain ⟨a2, rfl, rfl, rfl, w2⟩ := open_int Try.underlying2 (hval 2 2 v2 rfl rfl) h2
  clear hA0 hval0 hsz0 hsz
  refine (S.lombardlaw11_TableRolls.walk Pure.TableRolls a0 a1 len1 cap1 z1 a2 W w0 w1 y1 w2).mono fun e W' ⟨he, bel⟩ => ?_
  subst he
  exact ⟨_, rfl, _, _, _, [], _, [], hW', trodAll_mk1 (shut_bool Try.underlying4 _), (trodAll_cons_mk (shut_int Try.underlying2 w0) (trodAll_cons_mk (Below.trod laidOut (by kernel_rfl) (of_decide_eq_true (by kernel_rfl)) k1 bel lt1) (trodAll_cons_mk (shut_int Try.underlying2 w2) trodAll_mk0))), rfl, bel.frame _, fun h => by cases h⟩
theorem over : Rows.tableRollsRow.holds Try.pinned (OpenSpec.ofChange Rows.tableRollsSpec) :=
  OpenClaim.holds_of_wide 3 Try.f3 rfl rfl rfl rfl rfl rfl rfl ⟨rfl, rfl, rfl, rfl, rfl⟩ rfl rfl rfl rfl rfl (by kernel_rfl) Try.func3 (by kernel_rfl)
    (of_decide_eq_true (by kernel_rfl)) (by unfold Func.isWrapper; first | (rw [if_pos (by decide +kernel)]; kernel_rfl) | (rw [if_neg (by decide +kernel)]; exact ⟨rfl, rfl⟩))
    (fun os started H enc _ => lifted os started H enc)
theorem proved : Rows.TableRollsSaid := over
#print axioms proved
end Go.Proofs.Ytalnlphinlfenaa.tableRolls
namespace Go.Proofs.Ytalnlphinlfenaa
/-- The row, under a short name, for the claim. -/
theorem tableRolls_holds : Rows.TableRollsSaid := tableRolls.proved
end Go.Proofs.Ytalnlphinlfenaa
end
