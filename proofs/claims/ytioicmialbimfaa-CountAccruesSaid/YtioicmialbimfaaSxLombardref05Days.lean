/- Printed by a program of this session out of the translation: what each function called here computes, and that its call comes to just that. Conditions: none beyond those that each theorem names. -/
import Derived.Test.YtioicmialbimfaaSx0
import Derived.Test.YtioicmialbimfaaSxLombardref05Basis
import Derived.Test.YtioicmialbimfaaSxLombardref04To
namespace Go.Proofs.Ytioicmialbimfaa.S
open Go.RowKit Go.Proofs.YtioicmialbimfaaW.PrintWords Go.Proofs.YtioicmialbimfaaW.PrintLast Go.Proofs.YtioicmialbimfaaW.PrintMore
attribute [local go_sem] max2_int min2_int max_two min_two max_three min_three max_four min_four   -- for this text's walks alone
attribute [local go_sem] Go.Proofs.Ytioicmialbimfaa.XWalk.cell2
set_option linter.unusedVariables false
set_option linter.unusedSimpArgs false

/-! ### lombardref05_Days: function 30 -/
def lombardref05_Days.j0 : Nat → Int → Int → Int → Bool → Int → Int → Int → Int → Int → Int → Option (Int × Int)
  | 0, _, _, _, _, _, _, _, _, _, _ => none
  | k + 1, x0, x1, x2, x30, x320000, x320001, x320002, x325000, x325001, x325002 => if x30 = true then (some (0, 5)) else (if x2 = 1 then (if x320002 = 31 then (if x325002 = 31 then (some (wrap64 ((wrap64 ((wrap64 ((wrap64 (360 * (wrap64 (x325000 - x320000)))) + (wrap64 (30 * (wrap64 (x325001 - x320001)))))) + 30)) - 30), 0)) else (some (wrap64 ((wrap64 ((wrap64 ((wrap64 (360 * (wrap64 (x325000 - x320000)))) + (wrap64 (30 * (wrap64 (x325001 - x320001)))))) + x325002)) - 30), 0))) else (if x325002 = 31 then (some (wrap64 ((wrap64 ((wrap64 ((wrap64 (360 * (wrap64 (x325000 - x320000)))) + (wrap64 (30 * (wrap64 (x325001 - x320001)))))) + 30)) - x320002), 0)) else (some (wrap64 ((wrap64 ((wrap64 ((wrap64 (360 * (wrap64 (x325000 - x320000)))) + (wrap64 (30 * (wrap64 (x325001 - x320001)))))) + x325002)) - x320002), 0)))) else (some (wrap64 (x1 - x0), 0)))
def lombardref05_Days.f (k : Nat) (a0 : Int) (a1 : Int) (a2 : Int) : Option (Int × Int) := (lombardref05_Basis.f k a2).bind fun t314 => (if t314 = 0 then (some (0, 2)) else ((lombardref04_To.f k a0).bind fun bt315 => ((lombardref04_To.f k a1).bind fun bt320 => (if bt315.2.2.2 = 0 then (lombardref05_Days.j0 k a0 a1 a2 (bt320.2.2.2 != 0) bt315.1 bt315.2.1 bt315.2.2.1 bt320.1 bt320.2.1 bt320.2.2.1) else (lombardref05_Days.j0 k a0 a1 a2 true bt315.1 bt315.2.1 bt315.2.2.1 bt320.1 bt320.2.1 bt320.2.2.1)))))
theorem lombardref05_Days.mono_l : ∀ k, (∀ y0 y1 y2 y3 y4 y5 y6 y7 y8 y9, LeO (lombardref05_Days.j0 k y0 y1 y2 y3 y4 y5 y6 y7 y8 y9) (lombardref05_Days.j0 (k + 1) y0 y1 y2 y3 y4 y5 y6 y7 y8 y9))
  | 0 => fun _ _ _ _ _ _ _ _ _ _ r h => by simp [lombardref05_Days.j0] at h
  | k + 1 => by
    have ih0 := lombardref05_Days.mono_l k
    · intro y0 y1 y2 y3 y4 y5 y6 y7 y8 y9
      unfold lombardref05_Days.j0
      repeat' first
      | (with_reducible exact ih0 _ _ _ _ _ _ _ _ _ _)
      | (with_reducible exact lombardref04_To.mono _ _)
      | (with_reducible exact lombardref05_Basis.mono _ _)
      | (with_reducible exact LeO.refl _)
      | (with_reducible exact LeO.none _)
      | (with_reducible refine LeO.ite ?_ ?_)
      | (with_reducible refine LeO.bind ?_ (fun _ => ?_))
      | exact ih0 _ _ _ _ _ _ _ _ _ _
      | exact lombardref04_To.mono _ _
      | exact lombardref05_Basis.mono _ _
      | exact LeO.none _
      | refine LeO.ite ?_ ?_
      | refine LeO.bind ?_ (fun _ => ?_)
theorem lombardref05_Days.mono : ∀ a0 a1 a2 k, LeO (lombardref05_Days.f k a0 a1 a2) (lombardref05_Days.f (k + 1) a0 a1 a2) := by
  intro a0 a1 a2 k
  have ih0 := lombardref05_Days.mono_l k
  unfold lombardref05_Days.f
  repeat' first
      | (with_reducible exact ih0 _ _ _ _ _ _ _ _ _ _)
      | (with_reducible exact lombardref04_To.mono _ _)
      | (with_reducible exact lombardref05_Basis.mono _ _)
      | (with_reducible exact LeO.refl _)
      | (with_reducible exact LeO.none _)
      | (with_reducible refine LeO.ite ?_ ?_)
      | (with_reducible refine LeO.bind ?_ (fun _ => ?_))
      | exact ih0 _ _ _ _ _ _ _ _ _ _
      | exact lombardref04_To.mono _ _
      | exact lombardref05_Basis.mono _ _
      | exact LeO.none _
      | refine LeO.ite ?_ ?_
      | refine LeO.bind ?_ (fun _ => ?_)
set_option maxHeartbeats 8000000 in
set_option maxRecDepth 100000 in
theorem lombardref05_Days.calls (k : Nat) (a0 : Int) (a1 : Int) (a2 : Int) (r1 : Int) (r2 : Int) (w : World) (h : lombardref05_Days.f k a0 a1 a2 = some (r1, r2)) :
    Calls Try.prog 30 #[.int .i64 a0, .int .i64 a1, .int .i64 a2] w fun e w' => e = .returned (.tuple #[.int .i64 r1, .int .i64 r2]) ∧ Below w.heap.size w w' := by
  have hu70 := Try.underlying70
  have HB := Aside0.mk (Below.refl w.heap.size w)
  have H : ((lombardref05_Basis.f k a2).bind fun t314 => (if t314 = 0 then (some (0, 2)) else ((lombardref04_To.f k a0).bind fun bt315 => ((lombardref04_To.f k a1).bind fun bt320 => (if bt315.2.2.2 = 0 then (lombardref05_Days.j0 k a0 a1 a2 (bt320.2.2.2 != 0) bt315.1 bt315.2.1 bt315.2.2.1 bt320.1 bt320.2.1 bt320.2.2.1) else (lombardref05_Days.j0 k a0 a1 a2 true bt315.1 bt315.2.1 bt315.2.2.1 bt320.1 bt320.2.1 bt320.2.2.1)))))) = some (r1, r2) := h
  clear h
  replace H := Option.bind_eq_some_iff.mp H
  obtain ⟨t314, A40, H⟩ := H
  replace H : (if t314 = 0 then (some (0, 2)) else ((lombardref04_To.f k a0).bind fun bt315 => ((lombardref04_To.f k a1).bind fun bt320 => (if bt315.2.2.2 = 0 then (lombardref05_Days.j0 k a0 a1 a2 (bt320.2.2.2 != 0) bt315.1 bt315.2.1 bt315.2.2.1 bt320.1 bt320.2.1 bt320.2.2.1) else (lombardref05_Days.j0 k a0 a1 a2 true bt315.1 bt315.2.1 bt315.2.2.1 bt320.1 bt320.2.1 bt320.2.2.1))))) = some (r1, r2) := H
  have A4 := Aside0.mk A40
  clear A40
  by_cases c5 : t314 = 0
  · rw [if_pos c5] at H
    have c5b0 : (t314 == 0) = true := beq_iff_eq.mpr c5
    have c5b1 : (t314 != 0) = false := bne_eq_false_iff_eq.mpr c5
    clear c5
    simp only [Option.some.injEq, Prod.mk.injEq] at H
    obtain ⟨rfl, rfl⟩ := H
    go_enter Try.func30, Try.ntmps30
    go_wp2_with (first | ((with_reducible refine gate_callee (f := 34) rfl ?_); refine goesL_ (some 13) rfl rfl Try.func34 (by kernel_rfl) rfl #[.int .i64 a2] rfl (by (try simp only [List.map_toArray, List.map_cons, List.map_nil]); first | done | rfl | (simp only [List.length_drop, List.length_take]; rfl)) ?_; (with_reducible refine (lombardref05_Basis.calls k a2 t314 _ A4.out).mono ?_); rintro e w' ⟨rfl, ⟨nd, rfl⟩⟩; refine ⟨_, rfl, ?_⟩))
    go_ret2
    exact ⟨by first | rfl | (simp [errW_none, errW_some] <;> rfl) | (simp [*, errW_none, errW_some] <;> rfl), by repeat (first | (with_reducible first | exact HB.out | apply below_alloc | apply pw_below_drewN | apply below_drew1) | exact HB.out)⟩
  · rw [if_neg c5] at H
    have c5b0 : (t314 == 0) = false := beq_eq_false_iff_ne.mpr c5
    have c5b1 : (t314 != 0) = true := bne_iff_ne.mpr c5
    replace H := Option.bind_eq_some_iff.mp H
    obtain ⟨⟨t315, t316, t317, t318⟩, A60, H⟩ := H
    replace H : ((lombardref04_To.f k a1).bind fun bt320 => (if t318 = 0 then (lombardref05_Days.j0 k a0 a1 a2 (bt320.2.2.2 != 0) t315 t316 t317 bt320.1 bt320.2.1 bt320.2.2.1) else (lombardref05_Days.j0 k a0 a1 a2 true t315 t316 t317 bt320.1 bt320.2.1 bt320.2.2.1))) = some (r1, r2) := H
    have A6 := Aside0.mk A60
    clear A60
    replace H := Option.bind_eq_some_iff.mp H
    obtain ⟨⟨t320, t321, t322, t323⟩, A70, H⟩ := H
    replace H : (if t318 = 0 then (lombardref05_Days.j0 k a0 a1 a2 (t323 != 0) t315 t316 t317 t320 t321 t322) else (lombardref05_Days.j0 k a0 a1 a2 true t315 t316 t317 t320 t321 t322)) = some (r1, r2) := H
    have A7 := Aside0.mk A70
    clear A70
    have HC8 := Aside0.mk H
    clear H
    go_enter Try.func30, Try.ntmps30
    go_upto_region 5 with (first | ((with_reducible refine gate_callee (f := 34) rfl ?_); refine goesL_ (some 13) rfl rfl Try.func34 (by kernel_rfl) rfl #[.int .i64 a2] rfl (by (try simp only [List.map_toArray, List.map_cons, List.map_nil]); first | done | rfl | (simp only [List.length_drop, List.length_take]; rfl)) ?_; (with_reducible refine (lombardref05_Basis.calls k a2 t314 _ A4.out).mono ?_); rintro e w' ⟨rfl, ⟨nd, rfl⟩⟩; refine ⟨_, rfl, ?_⟩) | ((with_reducible refine gate_callee (f := 44) rfl ?_); refine goesL_ (some 17) rfl rfl Try.func44 (by kernel_rfl) rfl #[.int .i64 a0] rfl (by (try simp only [List.map_toArray, List.map_cons, List.map_nil]); first | done | rfl | (simp only [List.length_drop, List.length_take]; rfl)) ?_; (with_reducible refine (lombardref04_To.calls k a0 t315 t316 t317 t318 _ A6.out).mono ?_); rintro e w9 ⟨rfl, hb⟩; refine ⟨_, rfl, ?_⟩; have n0_ := Aside0.mk (below_step (by repeat (first | (with_reducible first | exact HB.out | apply below_alloc | apply pw_below_drewN | apply below_drew1) | exact HB.out)) hb); clear HB; have HB := n0_; clear n0_; (try clear hb); (try clear hb2); (try clear hk); (try clear hi)) | ((with_reducible refine gate_dst (N := 8) rfl ?_); refine box_event ?hg (N := 8) ?hd (cs := #[.int .i64 0, .int .i64 0, .int .i64 0]) (t := 70) ?hr ?_; (case hd => rfl); (case hg => rfl); (case hr => first | (go_simp; done) | (go_simp; rfl)); intro gb319 hg w10 hbox hb; have n0_ := Aside0.mk (below_step (by repeat (first | (with_reducible first | exact HB.out | apply below_alloc | apply pw_below_drewN | apply below_drew1) | exact HB.out)) hb); have n1_ := Aside0.mk (hbox); have n2_ := Aside0.mk ((by rw [hg]; exact (below_size (by repeat (first | (with_reducible first | exact HB.out | apply below_alloc | apply pw_below_drewN | apply below_drew1) | exact HB.out))) : w.heap.size ≤ gb319)); have n3_ := Aside0.mk ((by rw [hg]; exact (below_size (by repeat (first | (with_reducible first | exact HB.out | apply below_alloc | apply pw_below_drewN | apply below_drew1) | exact HB.out))) : w.heap.size ≤ gb319)); clear HB; have HB := n0_; have BK319 := n1_; have GW319 := n2_; have GE319 := n3_; clear n0_ n1_ n2_ n3_; clear hb hbox hg; have hcz11_0 : w10.cell? ⟨gb319, 0, none⟩ = some (.int .i64 0) := (blk_cell BK319.out 0).trans rfl; have hcz11_1 : w10.cell? ⟨gb319, 1, none⟩ = some (.int .i64 0) := (blk_cell BK319.out 1).trans rfl; have hcz11_2 : w10.cell? ⟨gb319, 2, none⟩ = some (.int .i64 0) := (blk_cell BK319.out 2).trans rfl; have hfz11_0 := blk_frozen BK319.out 0; have hfz11_1 := blk_frozen BK319.out 1; have hfz11_2 := blk_frozen BK319.out 2) | ((with_reducible refine gate_callee (f := 44) rfl ?_); refine goesL_ (some 22) rfl rfl Try.func44 (by kernel_rfl) rfl #[.int .i64 a1] rfl (by (try simp only [List.map_toArray, List.map_cons, List.map_nil]); first | done | rfl | (simp only [List.length_drop, List.length_take]; rfl)) ?_; (with_reducible refine (lombardref04_To.calls k a1 t320 t321 t322 t323 _ A7.out).mono ?_); rintro e w12 ⟨rfl, hb⟩; refine ⟨_, rfl, ?_⟩; have n0_ := Aside0.mk (blk_below (g := gb319) (o := .cells #[.int .i64 t315, .int .i64 t316, .int .i64 t317] 70 (0, 0)) (by (with_reducible repeat (first | refine blk_drewN ?_ _ | refine blk_drew ?_ | refine blk_alloc ?_ _)); refine blk_put (cs := #[.int .i64 t315, .int .i64 t316, .int .i64 0]) ?_ 2 _ rfl; (with_reducible repeat (first | refine blk_drewN ?_ _ | refine blk_drew ?_ | refine blk_alloc ?_ _)); refine blk_put (cs := #[.int .i64 t315, .int .i64 0, .int .i64 0]) ?_ 1 _ rfl; (with_reducible repeat (first | refine blk_drewN ?_ _ | refine blk_drew ?_ | refine blk_alloc ?_ _)); refine blk_put (cs := #[.int .i64 0, .int .i64 0, .int .i64 0]) ?_ 0 _ rfl; (with_reducible repeat (first | refine blk_drewN ?_ _ | refine blk_drew ?_ | refine blk_alloc ?_ _)); exact BK319.out) hb); have n1_ := Aside0.mk (below_step (by repeat (first | (with_reducible first | exact HB.out | apply below_alloc | apply pw_below_drewN | apply below_drew1 | refine below_set ?_ GE319.out) | exact HB.out)) hb); clear BK319; clear HB; have BK319 := n0_; have HB := n1_; clear n0_ n1_; (try clear hb); (try clear hb2); (try clear hk); (try clear hi)) | ((with_reducible refine gate_dst (N := 10) rfl ?_); refine box_event ?hg (N := 10) ?hd (cs := #[.int .i64 0, .int .i64 0, .int .i64 0]) (t := 70) ?hr ?_; (case hd => rfl); (case hg => rfl); (case hr => first | (go_simp; done) | (go_simp; rfl)); intro gb324 hg w13 hbox hb; have n0_ := Aside0.mk (blk_below (g := gb319) (o := .cells #[.int .i64 t315, .int .i64 t316, .int .i64 t317] 70 (0, 0)) (by (with_reducible repeat (first | refine blk_drewN ?_ _ | refine blk_drew ?_ | refine blk_alloc ?_ _)); exact BK319.out) hb); have n1_ := Aside0.mk (below_step (by repeat (first | (with_reducible first | exact HB.out | apply below_alloc | apply pw_below_drewN | apply below_drew1 | refine below_set ?_ GE319.out) | exact HB.out)) hb); have n2_ := Aside0.mk (hbox); have n3_ := Aside0.mk ((by rw [hg]; exact (below_size (by repeat (first | (with_reducible first | exact HB.out | apply below_alloc | apply pw_below_drewN | apply below_drew1 | refine below_set ?_ GE319.out) | exact HB.out))) : w.heap.size ≤ gb324)); have n4_ := Aside0.mk ((by rw [hg]; exact (below_size (by repeat (first | (with_reducible first | exact HB.out | apply below_alloc | apply pw_below_drewN | apply below_drew1 | refine below_set ?_ GE319.out) | exact HB.out))) : w.heap.size ≤ gb324)); have n5_ := Aside0.mk ((by rw [hg]; exact Nat.ne_of_lt (blk_lt (g := gb319) (o := .cells #[.int .i64 t315, .int .i64 t316, .int .i64 t317] 70 (0, 0)) (by (with_reducible repeat (first | refine blk_drewN ?_ _ | refine blk_drew ?_ | refine blk_alloc ?_ _)); exact BK319.out)) : gb319 ≠ gb324)); have n6_ := Aside0.mk ((by rw [hg]; exact Nat.ne_of_gt (blk_lt (g := gb319) (o := .cells #[.int .i64 t315, .int .i64 t316, .int .i64 t317] 70 (0, 0)) (by (with_reducible repeat (first | refine blk_drewN ?_ _ | refine blk_drew ?_ | refine blk_alloc ?_ _)); exact BK319.out)) : gb324 ≠ gb319)); clear BK319; clear HB; have BK319 := n0_; have HB := n1_; have BK324 := n2_; have GW324 := n3_; have GE324 := n4_; have NB319_324 := n5_; have NB324_319 := n6_; clear n0_ n1_ n2_ n3_ n4_ n5_ n6_; clear hb hbox hg; have hnb14 := NB324_319.out; have hnc14 := NB319_324.out; have hcz15_0 : w13.cell? ⟨gb324, 0, none⟩ = some (.int .i64 0) := (blk_cell BK324.out 0).trans rfl; have hcz15_1 : w13.cell? ⟨gb324, 1, none⟩ = some (.int .i64 0) := (blk_cell BK324.out 1).trans rfl; have hcz15_2 : w13.cell? ⟨gb324, 2, none⟩ = some (.int .i64 0) := (blk_cell BK324.out 2).trans rfl; have hfz15_0 := blk_frozen BK324.out 0; have hfz15_1 := blk_frozen BK324.out 1; have hfz15_2 := blk_frozen BK324.out 2))
    (try simp only [Act.put, List.setIfInBounds_toArray, List.set_cons_zero, List.set_cons_succ])
    go_cut [30] (fun v30 wc => ∃ (kq : Nat) (x30_7 : Bool), v30 = .bool x30_7 ∧ Aside0 (lombardref05_Days.j0 kq a0 a1 a2 x30_7 t315 t316 t317 t320 t321 t322 = some (r1, r2)) ∧ Aside0 (kq ≤ k) ∧ Aside0 (wc.heap[gb319]? = some (.cells #[.int .i64 t315, .int .i64 t316, .int .i64 t317] 70 (0, 0))) ∧ Aside0 (wc.heap[gb324]? = some (.cells #[.int .i64 t320, .int .i64 t321, .int .i64 t322] 70 (0, 0))) ∧ Aside0 (Below w.heap.size w wc))
    case first =>
      have H := HC8.out
      clear HC8
      by_cases c16 : t318 = 0
      · rw [if_pos c16] at H
        have c16b0 : (t318 == 0) = true := beq_iff_eq.mpr c16
        have c16b1 : (t318 != 0) = false := bne_eq_false_iff_eq.mpr c16
        clear c16
        (first | rw [c16b0] | (simp only [i64_w, i32_w]; rw [c16b0]) | skip)
        have H' := Aside0.mk H
        clear H
        go_wp2
        go_meet
        case rel => exact ⟨_, ((t323 != 0)), (by first | rfl | (simp; done) | (simp [*]; done)), H', ⟨by first | omega | exact Nat.le_refl _⟩, ⟨by (with_reducible repeat (first | refine blk_drewN ?_ _ | refine blk_drew ?_ | refine blk_alloc ?_ _)); refine blk_far ?_ NB319_324.out _; (with_reducible repeat (first | refine blk_drewN ?_ _ | refine blk_drew ?_ | refine blk_alloc ?_ _)); refine blk_far ?_ NB319_324.out _; (with_reducible repeat (first | refine blk_drewN ?_ _ | refine blk_drew ?_ | refine blk_alloc ?_ _)); refine blk_far ?_ NB319_324.out _; (with_reducible repeat (first | refine blk_drewN ?_ _ | refine blk_drew ?_ | refine blk_alloc ?_ _)); exact BK319.out⟩, ⟨by (with_reducible repeat (first | refine blk_drewN ?_ _ | refine blk_drew ?_ | refine blk_alloc ?_ _)); refine blk_put (cs := #[.int .i64 t320, .int .i64 t321, .int .i64 0]) ?_ 2 _ rfl; (with_reducible repeat (first | refine blk_drewN ?_ _ | refine blk_drew ?_ | refine blk_alloc ?_ _)); refine blk_put (cs := #[.int .i64 t320, .int .i64 0, .int .i64 0]) ?_ 1 _ rfl; (with_reducible repeat (first | refine blk_drewN ?_ _ | refine blk_drew ?_ | refine blk_alloc ?_ _)); refine blk_put (cs := #[.int .i64 0, .int .i64 0, .int .i64 0]) ?_ 0 _ rfl; (with_reducible repeat (first | refine blk_drewN ?_ _ | refine blk_drew ?_ | refine blk_alloc ?_ _)); exact BK324.out⟩, ⟨by repeat (first | (with_reducible first | exact HB.out | apply below_alloc | apply pw_below_drewN | apply below_drew1 | refine below_set ?_ GE319.out | refine below_set ?_ GE324.out) | exact HB.out)⟩⟩
      · rw [if_neg c16] at H
        have c16b0 : (t318 == 0) = false := beq_eq_false_iff_ne.mpr c16
        have c16b1 : (t318 != 0) = true := bne_iff_ne.mpr c16
        (first | rw [c16b0] | (simp only [i64_w, i32_w]; rw [c16b0]) | skip)
        have H' := Aside0.mk H
        clear H
        go_wp2
        go_meet
        case rel => exact ⟨_, (true), (by first | rfl | (simp; done) | (simp [*]; done)), H', ⟨by first | omega | exact Nat.le_refl _⟩, ⟨by (with_reducible repeat (first | refine blk_drewN ?_ _ | refine blk_drew ?_ | refine blk_alloc ?_ _)); refine blk_far ?_ NB319_324.out _; (with_reducible repeat (first | refine blk_drewN ?_ _ | refine blk_drew ?_ | refine blk_alloc ?_ _)); refine blk_far ?_ NB319_324.out _; (with_reducible repeat (first | refine blk_drewN ?_ _ | refine blk_drew ?_ | refine blk_alloc ?_ _)); refine blk_far ?_ NB319_324.out _; (with_reducible repeat (first | refine blk_drewN ?_ _ | refine blk_drew ?_ | refine blk_alloc ?_ _)); exact BK319.out⟩, ⟨by (with_reducible repeat (first | refine blk_drewN ?_ _ | refine blk_drew ?_ | refine blk_alloc ?_ _)); refine blk_put (cs := #[.int .i64 t320, .int .i64 t321, .int .i64 0]) ?_ 2 _ rfl; (with_reducible repeat (first | refine blk_drewN ?_ _ | refine blk_drew ?_ | refine blk_alloc ?_ _)); refine blk_put (cs := #[.int .i64 t320, .int .i64 0, .int .i64 0]) ?_ 1 _ rfl; (with_reducible repeat (first | refine blk_drewN ?_ _ | refine blk_drew ?_ | refine blk_alloc ?_ _)); refine blk_put (cs := #[.int .i64 0, .int .i64 0, .int .i64 0]) ?_ 0 _ rfl; (with_reducible repeat (first | refine blk_drewN ?_ _ | refine blk_drew ?_ | refine blk_alloc ?_ _)); exact BK324.out⟩, ⟨by repeat (first | (with_reducible first | exact HB.out | apply below_alloc | apply pw_below_drewN | apply below_drew1 | refine below_set ?_ GE319.out | refine below_set ?_ GE324.out) | exact HB.out)⟩⟩
    case rest =>
      clear HC8
      try clear c1
      try clear p2
      try clear c3
      try clear c4
      try clear c5
      try clear c5b0
      try clear c5b1
      try clear c14
      try clear c16
      try clear c16b0
      try clear c16b1
      try clear hcz11_0
      try clear hcz11_1
      try clear hcz11_2
      try clear hcz15_0
      try clear hcz15_1
      try clear hcz15_2
      try clear hfz11_0
      try clear hfz11_1
      try clear hfz11_2
      try clear hfz15_0
      try clear hfz15_1
      try clear hfz15_2
      obtain ⟨kq, x30_7, rfl, HA, HJ7, BK319, BK324, HB⟩ := hcut
      cases kq with
      | zero => exact absurd HA.out (by simp [lombardref05_Days.j0])
      | succ kj7 =>
        have H := HA.out
        clear HA
        simp only [lombardref05_Days.j0] at H
        by_cases c17 : x30_7 = true
        · subst c17
          have H1 : (some (0, 5)) = some (r1, r2) := by rw [if_pos rfl] at H; exact H
          clear H
          have H := H1
          clear H1
          simp only [Option.some.injEq, Prod.mk.injEq] at H
          obtain ⟨rfl, rfl⟩ := H
          go_wp2
          go_ret2
          exact ⟨by first | rfl | (simp [errW_none, errW_some] <;> rfl) | (simp [*, errW_none, errW_some] <;> rfl), by repeat (first | (with_reducible first | exact HB.out | apply below_alloc | apply pw_below_drewN | apply below_drew1 | refine below_set ?_ GE319.out | refine below_set ?_ GE324.out) | exact HB.out)⟩
        · replace c17 := Bool.eq_false_iff.mpr c17
          subst c17
          have H1 : (if a2 = 1 then (if t317 = 31 then (if t322 = 31 then (some (wrap64 ((wrap64 ((wrap64 ((wrap64 (360 * (wrap64 (t320 - t315)))) + (wrap64 (30 * (wrap64 (t321 - t316)))))) + 30)) - 30), 0)) else (some (wrap64 ((wrap64 ((wrap64 ((wrap64 (360 * (wrap64 (t320 - t315)))) + (wrap64 (30 * (wrap64 (t321 - t316)))))) + t322)) - 30), 0))) else (if t322 = 31 then (some (wrap64 ((wrap64 ((wrap64 ((wrap64 (360 * (wrap64 (t320 - t315)))) + (wrap64 (30 * (wrap64 (t321 - t316)))))) + 30)) - t317), 0)) else (some (wrap64 ((wrap64 ((wrap64 ((wrap64 (360 * (wrap64 (t320 - t315)))) + (wrap64 (30 * (wrap64 (t321 - t316)))))) + t322)) - t317), 0)))) else (some (wrap64 (a1 - a0), 0))) = some (r1, r2) := by rw [if_neg (show ¬ (false = true) by decide)] at H; exact H
          clear H
          have H := H1
          clear H1
          by_cases c18 : a2 = 1
          · rw [if_pos c18] at H
            have c18b0 : (a2 == 1) = true := beq_iff_eq.mpr c18
            have c18b1 : (a2 != 1) = false := bne_eq_false_iff_eq.mpr c18
            clear c18
            by_cases c19 : t317 = 31
            · rw [if_pos c19] at H
              have c19b0 : (t317 == 31) = true := beq_iff_eq.mpr c19
              have c19b1 : (t317 != 31) = false := bne_eq_false_iff_eq.mpr c19
              clear c19
              by_cases c20 : t322 = 31
              · rw [if_pos c20] at H
                have c20b0 : (t322 == 31) = true := beq_iff_eq.mpr c20
                have c20b1 : (t322 != 31) = false := bne_eq_false_iff_eq.mpr c20
                clear c20
                simp only [Option.some.injEq, Prod.mk.injEq] at H
                obtain ⟨rfl, rfl⟩ := H
                have hnb21 := NB319_324.out
                have hnc21 := NB324_319.out
                have hcz22_0 : wc.cell? ⟨gb319, 0, none⟩ = some (.int .i64 t315) := (blk_cell BK319.out 0).trans rfl
                have hcz22_1 : wc.cell? ⟨gb319, 1, none⟩ = some (.int .i64 t316) := (blk_cell BK319.out 1).trans rfl
                have hcz22_2 : wc.cell? ⟨gb319, 2, none⟩ = some (.int .i64 t317) := (blk_cell BK319.out 2).trans rfl
                have hfz22_0 := blk_frozen BK319.out 0
                have hfz22_1 := blk_frozen BK319.out 1
                have hfz22_2 := blk_frozen BK319.out 2
                have hcz23_0 : wc.cell? ⟨gb324, 0, none⟩ = some (.int .i64 t320) := (blk_cell BK324.out 0).trans rfl
                have hcz23_1 : wc.cell? ⟨gb324, 1, none⟩ = some (.int .i64 t321) := (blk_cell BK324.out 1).trans rfl
                have hcz23_2 : wc.cell? ⟨gb324, 2, none⟩ = some (.int .i64 t322) := (blk_cell BK324.out 2).trans rfl
                have hfz23_0 := blk_frozen BK324.out 0
                have hfz23_1 := blk_frozen BK324.out 1
                have hfz23_2 := blk_frozen BK324.out 2
                go_wp2
                go_ret2
                exact ⟨by first | rfl | (simp [errW_none, errW_some] <;> rfl) | (simp [*, errW_none, errW_some] <;> rfl), by repeat (first | (with_reducible first | exact HB.out | apply below_alloc | apply pw_below_drewN | apply below_drew1 | refine below_set ?_ GE319.out | refine below_set ?_ GE324.out) | exact HB.out)⟩
              · rw [if_neg c20] at H
                have c20b0 : (t322 == 31) = false := beq_eq_false_iff_ne.mpr c20
                have c20b1 : (t322 != 31) = true := bne_iff_ne.mpr c20
                simp only [Option.some.injEq, Prod.mk.injEq] at H
                obtain ⟨rfl, rfl⟩ := H
                have hnb24 := NB319_324.out
                have hnc24 := NB324_319.out
                have hcz25_0 : wc.cell? ⟨gb319, 0, none⟩ = some (.int .i64 t315) := (blk_cell BK319.out 0).trans rfl
                have hcz25_1 : wc.cell? ⟨gb319, 1, none⟩ = some (.int .i64 t316) := (blk_cell BK319.out 1).trans rfl
                have hcz25_2 : wc.cell? ⟨gb319, 2, none⟩ = some (.int .i64 t317) := (blk_cell BK319.out 2).trans rfl
                have hfz25_0 := blk_frozen BK319.out 0
                have hfz25_1 := blk_frozen BK319.out 1
                have hfz25_2 := blk_frozen BK319.out 2
                have hcz26_0 : wc.cell? ⟨gb324, 0, none⟩ = some (.int .i64 t320) := (blk_cell BK324.out 0).trans rfl
                have hcz26_1 : wc.cell? ⟨gb324, 1, none⟩ = some (.int .i64 t321) := (blk_cell BK324.out 1).trans rfl
                have hcz26_2 : wc.cell? ⟨gb324, 2, none⟩ = some (.int .i64 t322) := (blk_cell BK324.out 2).trans rfl
                have hfz26_0 := blk_frozen BK324.out 0
                have hfz26_1 := blk_frozen BK324.out 1
                have hfz26_2 := blk_frozen BK324.out 2
                go_wp2
                go_ret2
                exact ⟨by first | rfl | (simp [errW_none, errW_some] <;> rfl) | (simp [*, errW_none, errW_some] <;> rfl), by repeat (first | (with_reducible first | exact HB.out | apply below_alloc | apply pw_below_drewN | apply below_drew1 | refine below_set ?_ GE319.out | refine below_set ?_ GE324.out) | exact HB.out)⟩
            · rw [if_neg c19] at H
              have c19b0 : (t317 == 31) = false := beq_eq_false_iff_ne.mpr c19
              have c19b1 : (t317 != 31) = true := bne_iff_ne.mpr c19
              by_cases c27 : t322 = 31
              · rw [if_pos c27] at H
                have c27b0 : (t322 == 31) = true := beq_iff_eq.mpr c27
                have c27b1 : (t322 != 31) = false := bne_eq_false_iff_eq.mpr c27
                clear c27
                simp only [Option.some.injEq, Prod.mk.injEq] at H
                obtain ⟨rfl, rfl⟩ := H
                have hnb28 := NB319_324.out
                have hnc28 := NB324_319.out
                have hcz29_0 : wc.cell? ⟨gb319, 0, none⟩ = some (.int .i64 t315) := (blk_cell BK319.out 0).trans rfl
                have hcz29_1 : wc.cell? ⟨gb319, 1, none⟩ = some (.int .i64 t316) := (blk_cell BK319.out 1).trans rfl
                have hcz29_2 : wc.cell? ⟨gb319, 2, none⟩ = some (.int .i64 t317) := (blk_cell BK319.out 2).trans rfl
                have hfz29_0 := blk_frozen BK319.out 0
                have hfz29_1 := blk_frozen BK319.out 1
                have hfz29_2 := blk_frozen BK319.out 2
                have hcz30_0 : wc.cell? ⟨gb324, 0, none⟩ = some (.int .i64 t320) := (blk_cell BK324.out 0).trans rfl
                have hcz30_1 : wc.cell? ⟨gb324, 1, none⟩ = some (.int .i64 t321) := (blk_cell BK324.out 1).trans rfl
                have hcz30_2 : wc.cell? ⟨gb324, 2, none⟩ = some (.int .i64 t322) := (blk_cell BK324.out 2).trans rfl
                have hfz30_0 := blk_frozen BK324.out 0
                have hfz30_1 := blk_frozen BK324.out 1
                have hfz30_2 := blk_frozen BK324.out 2
                go_wp2
                go_ret2
                exact ⟨by first | rfl | (simp [errW_none, errW_some] <;> rfl) | (simp [*, errW_none, errW_some] <;> rfl), by repeat (first | (with_reducible first | exact HB.out | apply below_alloc | apply pw_below_drewN | apply below_drew1 | refine below_set ?_ GE319.out | refine below_set ?_ GE324.out) | exact HB.out)⟩
              · rw [if_neg c27] at H
                have c27b0 : (t322 == 31) = false := beq_eq_false_iff_ne.mpr c27
                have c27b1 : (t322 != 31) = true := bne_iff_ne.mpr c27
                simp only [Option.some.injEq, Prod.mk.injEq] at H
                obtain ⟨rfl, rfl⟩ := H
                have hnb31 := NB319_324.out
                have hnc31 := NB324_319.out
                have hcz32_0 : wc.cell? ⟨gb319, 0, none⟩ = some (.int .i64 t315) := (blk_cell BK319.out 0).trans rfl
                have hcz32_1 : wc.cell? ⟨gb319, 1, none⟩ = some (.int .i64 t316) := (blk_cell BK319.out 1).trans rfl
                have hcz32_2 : wc.cell? ⟨gb319, 2, none⟩ = some (.int .i64 t317) := (blk_cell BK319.out 2).trans rfl
                have hfz32_0 := blk_frozen BK319.out 0
                have hfz32_1 := blk_frozen BK319.out 1
                have hfz32_2 := blk_frozen BK319.out 2
                have hcz33_0 : wc.cell? ⟨gb324, 0, none⟩ = some (.int .i64 t320) := (blk_cell BK324.out 0).trans rfl
                have hcz33_1 : wc.cell? ⟨gb324, 1, none⟩ = some (.int .i64 t321) := (blk_cell BK324.out 1).trans rfl
                have hcz33_2 : wc.cell? ⟨gb324, 2, none⟩ = some (.int .i64 t322) := (blk_cell BK324.out 2).trans rfl
                have hfz33_0 := blk_frozen BK324.out 0
                have hfz33_1 := blk_frozen BK324.out 1
                have hfz33_2 := blk_frozen BK324.out 2
                go_wp2
                go_ret2
                exact ⟨by first | rfl | (simp [errW_none, errW_some] <;> rfl) | (simp [*, errW_none, errW_some] <;> rfl), by repeat (first | (with_reducible first | exact HB.out | apply below_alloc | apply pw_below_drewN | apply below_drew1 | refine below_set ?_ GE319.out | refine below_set ?_ GE324.out) | exact HB.out)⟩
          · rw [if_neg c18] at H
            have c18b0 : (a2 == 1) = false := beq_eq_false_iff_ne.mpr c18
            have c18b1 : (a2 != 1) = true := bne_iff_ne.mpr c18
            simp only [Option.some.injEq, Prod.mk.injEq] at H
            obtain ⟨rfl, rfl⟩ := H
            go_wp2
            go_ret2
            exact ⟨by first | rfl | (simp [errW_none, errW_some] <;> rfl) | (simp [*, errW_none, errW_some] <;> rfl), by repeat (first | (with_reducible first | exact HB.out | apply below_alloc | apply pw_below_drewN | apply below_drew1 | refine below_set ?_ GE319.out | refine below_set ?_ GE324.out) | exact HB.out)⟩

end Go.Proofs.Ytioicmialbimfaa.S
