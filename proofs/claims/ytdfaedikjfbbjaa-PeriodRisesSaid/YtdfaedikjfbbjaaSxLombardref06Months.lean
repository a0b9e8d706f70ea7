/- Printed by a program of this session out of the translation: what each function called here computes, and that its call comes to just that. Conditions: none beyond those that each theorem names. -/
import Derived.Test.YtdfaedikjfbbjaaSx0
import Derived.Test.YtdfaedikjfbbjaaSxLombardref04Last
import Derived.Test.YtdfaedikjfbbjaaSxLombardref04From
import Derived.Test.YtdfaedikjfbbjaaSxLombardref04To
namespace Go.Proofs.Ytdfaedikjfbbjaa.S
open Go.RowKit Go.Proofs.YtdfaedikjfbbjaaW.PrintWords Go.Proofs.YtdfaedikjfbbjaaW.PrintLast Go.Proofs.YtdfaedikjfbbjaaW.PrintMore
attribute [local go_sem] max2_int min2_int max_two min_two max_three min_three max_four min_four   -- for this text's walks alone
attribute [local go_sem] Go.Proofs.Ytdfaedikjfbbjaa.XWalk.cell2
set_option linter.unusedVariables false
set_option linter.unusedSimpArgs false

/-! ### lombardref06_Months: function 31 -/
mutual
def lombardref06_Months.j0 : Nat → Int → Bool → Bool → Int → Int → Int → Option (Int × Int)
  | 0, _, _, _, _, _, _ => none
  | k + 1, x1, x2, x25, x350000, x350001, x350002 => if x25 = true then (some (0, 2)) else ((lombardref04_Last.f x350000 x350001).bind fun t350 => (lombardref06_Months.l0 k x1 x2 (x350002 == t350) x350000 x350001 x350002))
def lombardref06_Months.l0 : Nat → Int → Bool → Bool → Int → Int → Int → Option (Int × Int)
  | 0, _, _, _, _, _, _ => none
  | k + 1, x1, x2, x10, x350000, x350001, x350002 => if x1 > 0 then (if (wrap64 (x350001 + 1)) > 12 then (lombardref06_Months.l0 k (wrap64 (x1 - 1)) x2 x10 (wrap64 (x350000 + 1)) 1 x350002) else (lombardref06_Months.l0 k (wrap64 (x1 - 1)) x2 x10 x350000 (wrap64 (x350001 + 1)) x350002)) else (lombardref06_Months.l1 k x1 x2 x10 x350000 x350001 x350002)
def lombardref06_Months.l1 : Nat → Int → Bool → Bool → Int → Int → Int → Option (Int × Int)
  | 0, _, _, _, _, _, _ => none
  | k + 1, x1, x2, x10, x350000, x350001, x350002 => if x1 < 0 then (if (wrap64 (x350001 - 1)) < 1 then (lombardref06_Months.l1 k (wrap64 (x1 + 1)) x2 x10 (wrap64 (x350000 - 1)) 12 x350002) else (lombardref06_Months.l1 k (wrap64 (x1 + 1)) x2 x10 x350000 (wrap64 (x350001 - 1)) x350002)) else ((lombardref04_Last.f x350000 x350001).bind fun t351 => (if x350002 > t351 then ((lombardref04_From.f k x350000 x350001 t351).bind fun bt352 => (some (bt352.1, bt352.2))) else (if x2 = true then (if x10 = true then ((lombardref04_From.f k x350000 x350001 t351).bind fun bt354 => (some (bt354.1, bt354.2))) else ((lombardref04_From.f k x350000 x350001 x350002).bind fun bt356 => (some (bt356.1, bt356.2)))) else ((lombardref04_From.f k x350000 x350001 x350002).bind fun bt358 => (some (bt358.1, bt358.2))))))
end
def lombardref06_Months.f (k : Nat) (a0 : Int) (a1 : Int) (a2 : Bool) : Option (Int × Int) := (lombardref04_To.f k a0).bind fun bt345 => (if bt345.2.2.2 = 0 then (if a1 < (-12000) then (lombardref06_Months.j0 k a1 a2 true bt345.1 bt345.2.1 bt345.2.2.1) else (lombardref06_Months.j0 k a1 a2 (decide (a1 > 12000)) bt345.1 bt345.2.1 bt345.2.2.1)) else (some (0, bt345.2.2.2)))
theorem lombardref06_Months.mono_l : ∀ k, (∀ y0 y1 y2 y3 y4 y5, LeO (lombardref06_Months.j0 k y0 y1 y2 y3 y4 y5) (lombardref06_Months.j0 (k + 1) y0 y1 y2 y3 y4 y5)) ∧ (∀ y0 y1 y2 y3 y4 y5, LeO (lombardref06_Months.l0 k y0 y1 y2 y3 y4 y5) (lombardref06_Months.l0 (k + 1) y0 y1 y2 y3 y4 y5)) ∧ (∀ y0 y1 y2 y3 y4 y5, LeO (lombardref06_Months.l1 k y0 y1 y2 y3 y4 y5) (lombardref06_Months.l1 (k + 1) y0 y1 y2 y3 y4 y5))
  | 0 => ⟨fun _ _ _ _ _ _ r h => by simp [lombardref06_Months.j0] at h, fun _ _ _ _ _ _ r h => by simp [lombardref06_Months.l0] at h, fun _ _ _ _ _ _ r h => by simp [lombardref06_Months.l1] at h⟩
  | k + 1 => by
    obtain ⟨ih0, ih1, ih2⟩ := lombardref06_Months.mono_l k
    refine ⟨?_, ?_, ?_⟩
    · intro y0 y1 y2 y3 y4 y5
      unfold lombardref06_Months.j0
      repeat' first
      | (with_reducible exact ih0 _ _ _ _ _ _)
      | (with_reducible exact ih1 _ _ _ _ _ _)
      | (with_reducible exact ih2 _ _ _ _ _ _)
      | (with_reducible exact lombardref04_From.mono _ _ _ _)
      | (with_reducible exact lombardref04_To.mono _ _)
      | (with_reducible exact LeO.refl _)
      | (with_reducible exact LeO.none _)
      | (with_reducible refine LeO.ite ?_ ?_)
      | (with_reducible refine LeO.bind ?_ (fun _ => ?_))
      | exact ih0 _ _ _ _ _ _
      | exact ih1 _ _ _ _ _ _
      | exact ih2 _ _ _ _ _ _
      | exact lombardref04_From.mono _ _ _ _
      | exact lombardref04_To.mono _ _
      | exact LeO.none _
      | refine LeO.ite ?_ ?_
      | refine LeO.bind ?_ (fun _ => ?_)
    · intro y0 y1 y2 y3 y4 y5
      unfold lombardref06_Months.l0
      repeat' first
      | (with_reducible exact ih0 _ _ _ _ _ _)
      | (with_reducible exact ih1 _ _ _ _ _ _)
      | (with_reducible exact ih2 _ _ _ _ _ _)
      | (with_reducible exact lombardref04_From.mono _ _ _ _)
      | (with_reducible exact lombardref04_To.mono _ _)
      | (with_reducible exact LeO.refl _)
      | (with_reducible exact LeO.none _)
      | (with_reducible refine LeO.ite ?_ ?_)
      | (with_reducible refine LeO.bind ?_ (fun _ => ?_))
      | exact ih0 _ _ _ _ _ _
      | exact ih1 _ _ _ _ _ _
      | exact ih2 _ _ _ _ _ _
      | exact lombardref04_From.mono _ _ _ _
      | exact lombardref04_To.mono _ _
      | exact LeO.none _
      | refine LeO.ite ?_ ?_
      | refine LeO.bind ?_ (fun _ => ?_)
    · intro y0 y1 y2 y3 y4 y5
      unfold lombardref06_Months.l1
      repeat' first
      | (with_reducible exact ih0 _ _ _ _ _ _)
      | (with_reducible exact ih1 _ _ _ _ _ _)
      | (with_reducible exact ih2 _ _ _ _ _ _)
      | (with_reducible exact lombardref04_From.mono _ _ _ _)
      | (with_reducible exact lombardref04_To.mono _ _)
      | (with_reducible exact LeO.refl _)
      | (with_reducible exact LeO.none _)
      | (with_reducible refine LeO.ite ?_ ?_)
      | (with_reducible refine LeO.bind ?_ (fun _ => ?_))
      | exact ih0 _ _ _ _ _ _
      | exact ih1 _ _ _ _ _ _
      | exact ih2 _ _ _ _ _ _
      | exact lombardref04_From.mono _ _ _ _
      | exact lombardref04_To.mono _ _
      | exact LeO.none _
      | refine LeO.ite ?_ ?_
      | refine LeO.bind ?_ (fun _ => ?_)
theorem lombardref06_Months.mono : ∀ a0 a1 a2 k, LeO (lombardref06_Months.f k a0 a1 a2) (lombardref06_Months.f (k + 1) a0 a1 a2) := by
  intro a0 a1 a2 k
  obtain ⟨ih0, ih1, ih2⟩ := lombardref06_Months.mono_l k
  unfold lombardref06_Months.f
  repeat' first
      | (with_reducible exact ih0 _ _ _ _ _ _)
      | (with_reducible exact ih1 _ _ _ _ _ _)
      | (with_reducible exact ih2 _ _ _ _ _ _)
      | (with_reducible exact lombardref04_From.mono _ _ _ _)
      | (with_reducible exact lombardref04_To.mono _ _)
      | (with_reducible exact LeO.refl _)
      | (with_reducible exact LeO.none _)
      | (with_reducible refine LeO.ite ?_ ?_)
      | (with_reducible refine LeO.bind ?_ (fun _ => ?_))
      | exact ih0 _ _ _ _ _ _
      | exact ih1 _ _ _ _ _ _
      | exact ih2 _ _ _ _ _ _
      | exact lombardref04_From.mono _ _ _ _
      | exact lombardref04_To.mono _ _
      | exact LeO.none _
      | refine LeO.ite ?_ ?_
      | refine LeO.bind ?_ (fun _ => ?_)
set_option maxHeartbeats 8000000 in
set_option maxRecDepth 100000 in
theorem lombardref06_Months.calls (k : Nat) (a0 : Int) (a1 : Int) (a2 : Bool) (r1 : Int) (r2 : Int) (w : World) (h : lombardref06_Months.f k a0 a1 a2 = some (r1, r2)) :
    Calls Try.prog 31 #[.int .i64 a0, .int .i64 a1, .bool a2] w fun e w' => e = .returned (.tuple #[.int .i64 r1, .int .i64 r2]) ∧ Below w.heap.size w w' := by
  have hu29 := Try.underlying29
  have HB := Aside0.mk (Below.refl w.heap.size w)
  have H : ((lombardref04_To.f k a0).bind fun bt345 => (if bt345.2.2.2 = 0 then (if a1 < (-12000) then (lombardref06_Months.j0 k a1 a2 true bt345.1 bt345.2.1 bt345.2.2.1) else (lombardref06_Months.j0 k a1 a2 (decide (a1 > 12000)) bt345.1 bt345.2.1 bt345.2.2.1)) else (some (0, bt345.2.2.2)))) = some (r1, r2) := h
  clear h
  replace H := Option.bind_eq_some_iff.mp H
  obtain ⟨⟨t345, t346, t347, t348⟩, A40, H⟩ := H
  replace H : (if t348 = 0 then (if a1 < (-12000) then (lombardref06_Months.j0 k a1 a2 true t345 t346 t347) else (lombardref06_Months.j0 k a1 a2 (decide (a1 > 12000)) t345 t346 t347)) else (some (0, t348))) = some (r1, r2) := H
  have A4 := Aside0.mk A40
  clear A40
  by_cases c5 : t348 = 0
  · rw [if_pos c5] at H
    have c5b0 : (t348 == 0) = true := beq_iff_eq.mpr c5
    have c5b1 : (t348 != 0) = false := bne_eq_false_iff_eq.mpr c5
    clear c5
    have HC6 := Aside0.mk H
    clear H
    go_enter Try.func31, Try.ntmps31
    go_upto_region 4 with (first | (go_at_call 18; (with_reducible refine (lombardref04_To.calls k a0 t345 t346 t347 t348 _ A4.out).mono ?_); rintro e w7 ⟨rfl, hb⟩; have n0_ := Aside0.mk (below_step (by repeat (first | (with_reducible first | exact HB.out | apply below_alloc | apply pw_below_drewN | apply below_drew1) | exact HB.out)) hb); clear HB; have HB := n0_; clear n0_; (try clear hb); (try clear hb2); (try clear hk); (try clear hi)) | ((with_reducible refine gate_dst (N := 8) rfl ?_); refine box_event ?hg (N := 8) ?hd (cs := #[.int .i64 0, .int .i64 0, .int .i64 0]) (t := 29) ?hr ?_; (case hd => rfl); (case hg => rfl); (case hr => first | (go_simp; done) | (go_simp; rfl)); intro gb349 hg w8 hbox hb; have n0_ := Aside0.mk (below_step (by repeat (first | (with_reducible first | exact HB.out | apply below_alloc | apply pw_below_drewN | apply below_drew1) | exact HB.out)) hb); have n1_ := Aside0.mk (hbox); have n2_ := Aside0.mk ((by rw [hg]; exact (below_size (by repeat (first | (with_reducible first | exact HB.out | apply below_alloc | apply pw_below_drewN | apply below_drew1) | exact HB.out))) : w.heap.size ≤ gb349)); have n3_ := Aside0.mk ((by rw [hg]; exact (below_size (by repeat (first | (with_reducible first | exact HB.out | apply below_alloc | apply pw_below_drewN | apply below_drew1) | exact HB.out))) : w.heap.size ≤ gb349)); clear HB; have HB := n0_; have BK349 := n1_; have GW349 := n2_; have GE349 := n3_; clear n0_ n1_ n2_ n3_; clear hb hbox hg; have hcz9_0 : w8.cell? ⟨gb349, 0, none⟩ = some (.int .i64 0) := (blk_cell BK349.out 0).trans rfl; have hcz9_1 : w8.cell? ⟨gb349, 1, none⟩ = some (.int .i64 0) := (blk_cell BK349.out 1).trans rfl; have hcz9_2 : w8.cell? ⟨gb349, 2, none⟩ = some (.int .i64 0) := (blk_cell BK349.out 2).trans rfl; have hfz9_0 := blk_frozen BK349.out 0; have hfz9_1 := blk_frozen BK349.out 1; have hfz9_2 := blk_frozen BK349.out 2))
    repeat (go_quiet (first | (go_at_call 18; (with_reducible refine (lombardref04_To.calls k a0 t345 t346 t347 t348 _ A4.out).mono ?_); rintro e w7 ⟨rfl, hb⟩; have n0_ := Aside0.mk (below_step (by repeat (first | (with_reducible first | exact HB.out | apply below_alloc | apply pw_below_drewN | apply below_drew1) | exact HB.out)) hb); clear HB; have HB := n0_; clear n0_; (try clear hb); (try clear hb2); (try clear hk); (try clear hi)) | ((with_reducible refine gate_dst (N := 8) rfl ?_); refine box_event ?hg (N := 8) ?hd (cs := #[.int .i64 0, .int .i64 0, .int .i64 0]) (t := 29) ?hr ?_; (case hd => rfl); (case hg => rfl); (case hr => first | (go_simp; done) | (go_simp; rfl)); intro gb349 hg w8 hbox hb; have n0_ := Aside0.mk (below_step (by repeat (first | (with_reducible first | exact HB.out | apply below_alloc | apply pw_below_drewN | apply below_drew1) | exact HB.out)) hb); have n1_ := Aside0.mk (hbox); have n2_ := Aside0.mk ((by rw [hg]; exact (below_size (by repeat (first | (with_reducible first | exact HB.out | apply below_alloc | apply pw_below_drewN | apply below_drew1) | exact HB.out))) : w.heap.size ≤ gb349)); have n3_ := Aside0.mk ((by rw [hg]; exact (below_size (by repeat (first | (with_reducible first | exact HB.out | apply below_alloc | apply pw_below_drewN | apply below_drew1) | exact HB.out))) : w.heap.size ≤ gb349)); clear HB; have HB := n0_; have BK349 := n1_; have GW349 := n2_; have GE349 := n3_; clear n0_ n1_ n2_ n3_; clear hb hbox hg; have hcz9_0 : w8.cell? ⟨gb349, 0, none⟩ = some (.int .i64 0) := (blk_cell BK349.out 0).trans rfl; have hcz9_1 : w8.cell? ⟨gb349, 1, none⟩ = some (.int .i64 0) := (blk_cell BK349.out 1).trans rfl; have hcz9_2 : w8.cell? ⟨gb349, 2, none⟩ = some (.int .i64 0) := (blk_cell BK349.out 2).trans rfl; have hfz9_0 := blk_frozen BK349.out 0; have hfz9_1 := blk_frozen BK349.out 1; have hfz9_2 := blk_frozen BK349.out 2)); go_upto_region 4 with (first | (go_at_call 18; (with_reducible refine (lombardref04_To.calls k a0 t345 t346 t347 t348 _ A4.out).mono ?_); rintro e w7 ⟨rfl, hb⟩; have n0_ := Aside0.mk (below_step (by repeat (first | (with_reducible first | exact HB.out | apply below_alloc | apply pw_below_drewN | apply below_drew1) | exact HB.out)) hb); clear HB; have HB := n0_; clear n0_; (try clear hb); (try clear hb2); (try clear hk); (try clear hi)) | ((with_reducible refine gate_dst (N := 8) rfl ?_); refine box_event ?hg (N := 8) ?hd (cs := #[.int .i64 0, .int .i64 0, .int .i64 0]) (t := 29) ?hr ?_; (case hd => rfl); (case hg => rfl); (case hr => first | (go_simp; done) | (go_simp; rfl)); intro gb349 hg w8 hbox hb; have n0_ := Aside0.mk (below_step (by repeat (first | (with_reducible first | exact HB.out | apply below_alloc | apply pw_below_drewN | apply below_drew1) | exact HB.out)) hb); have n1_ := Aside0.mk (hbox); have n2_ := Aside0.mk ((by rw [hg]; exact (below_size (by repeat (first | (with_reducible first | exact HB.out | apply below_alloc | apply pw_below_drewN | apply below_drew1) | exact HB.out))) : w.heap.size ≤ gb349)); have n3_ := Aside0.mk ((by rw [hg]; exact (below_size (by repeat (first | (with_reducible first | exact HB.out | apply below_alloc | apply pw_below_drewN | apply below_drew1) | exact HB.out))) : w.heap.size ≤ gb349)); clear HB; have HB := n0_; have BK349 := n1_; have GW349 := n2_; have GE349 := n3_; clear n0_ n1_ n2_ n3_; clear hb hbox hg; have hcz9_0 : w8.cell? ⟨gb349, 0, none⟩ = some (.int .i64 0) := (blk_cell BK349.out 0).trans rfl; have hcz9_1 : w8.cell? ⟨gb349, 1, none⟩ = some (.int .i64 0) := (blk_cell BK349.out 1).trans rfl; have hcz9_2 : w8.cell? ⟨gb349, 2, none⟩ = some (.int .i64 0) := (blk_cell BK349.out 2).trans rfl; have hfz9_0 := blk_frozen BK349.out 0; have hfz9_1 := blk_frozen BK349.out 1; have hfz9_2 := blk_frozen BK349.out 2)))
    (try simp only [Act.put, List.setIfInBounds_toArray, List.set_cons_zero, List.set_cons_succ])
    go_cut [25] (fun v25 wc => ∃ (kq : Nat) (x25_5 : Bool), v25 = .bool x25_5 ∧ Aside0 (lombardref06_Months.j0 kq a1 a2 x25_5 t345 t346 t347 = some (r1, r2)) ∧ Aside0 (kq ≤ k) ∧ Aside0 (wc.heap[gb349]? = some (.cells #[.int .i64 t345, .int .i64 t346, .int .i64 t347] 29 (0, 0))) ∧ Aside0 (Below w.heap.size w wc))
    case first =>
      have H := HC6.out
      clear HC6
      by_cases c10 : a1 < (-12000)
      · rw [if_pos c10] at H
        have c10b0 : decide (a1 < (-12000)) = true := decide_eq_true c10
        clear c10
        (first | rw [c10b0] | (simp only [i64_w, i32_w]; rw [c10b0]) | skip)
        have H' := Aside0.mk H
        clear H
        go_wp2
        repeat (go_quiet (fail); try go_wp2)
        go_meet
        case rel => exact ⟨_, (true), (by first | rfl | (simp; done) | (simp [*]; done)), H', ⟨by first | omega | exact Nat.le_refl _⟩, ⟨by (with_reducible repeat (first | refine blk_drewN ?_ _ | refine blk_drew ?_ | refine blk_alloc ?_ _)); refine blk_put (cs := #[.int .i64 t345, .int .i64 t346, .int .i64 0]) ?_ 2 _ rfl; (with_reducible repeat (first | refine blk_drewN ?_ _ | refine blk_drew ?_ | refine blk_alloc ?_ _)); refine blk_put (cs := #[.int .i64 t345, .int .i64 0, .int .i64 0]) ?_ 1 _ rfl; (with_reducible repeat (first | refine blk_drewN ?_ _ | refine blk_drew ?_ | refine blk_alloc ?_ _)); refine blk_put (cs := #[.int .i64 0, .int .i64 0, .int .i64 0]) ?_ 0 _ rfl; (with_reducible repeat (first | refine blk_drewN ?_ _ | refine blk_drew ?_ | refine blk_alloc ?_ _)); exact BK349.out⟩, ⟨by repeat (first | (with_reducible first | exact HB.out | apply below_alloc | apply pw_below_drewN | apply below_drew1 | refine below_set ?_ GE349.out) | exact HB.out)⟩⟩
      · rw [if_neg c10] at H
        have c10b0 : decide (a1 < (-12000)) = false := decide_eq_false c10
        clear c10
        (first | rw [c10b0] | (simp only [i64_w, i32_w]; rw [c10b0]) | skip)
        have H' := Aside0.mk H
        clear H
        go_wp2
        repeat (go_quiet (fail); try go_wp2)
        go_meet
        case rel => exact ⟨_, (decide (a1 > 12000)), (by first | rfl | (simp; done) | (simp [*]; done)), H', ⟨by first | omega | exact Nat.le_refl _⟩, ⟨by (with_reducible repeat (first | refine blk_drewN ?_ _ | refine blk_drew ?_ | refine blk_alloc ?_ _)); refine blk_put (cs := #[.int .i64 t345, .int .i64 t346, .int .i64 0]) ?_ 2 _ rfl; (with_reducible repeat (first | refine blk_drewN ?_ _ | refine blk_drew ?_ | refine blk_alloc ?_ _)); refine blk_put (cs := #[.int .i64 t345, .int .i64 0, .int .i64 0]) ?_ 1 _ rfl; (with_reducible repeat (first | refine blk_drewN ?_ _ | refine blk_drew ?_ | refine blk_alloc ?_ _)); refine blk_put (cs := #[.int .i64 0, .int .i64 0, .int .i64 0]) ?_ 0 _ rfl; (with_reducible repeat (first | refine blk_drewN ?_ _ | refine blk_drew ?_ | refine blk_alloc ?_ _)); exact BK349.out⟩, ⟨by repeat (first | (with_reducible first | exact HB.out | apply below_alloc | apply pw_below_drewN | apply below_drew1 | refine below_set ?_ GE349.out) | exact HB.out)⟩⟩
    case rest =>
      clear HC6
      try clear c1
      try clear p2
      try clear c3
      try clear c5
      try clear c5b0
      try clear c5b1
      try clear c10
      try clear c10b0
      try clear hcz9_0
      try clear hcz9_1
      try clear hcz9_2
      try clear hfz9_0
      try clear hfz9_1
      try clear hfz9_2
      obtain ⟨kq, x25_5, rfl, HA, HJ5, BK349, HB⟩ := hcut
      cases kq with
      | zero => exact absurd HA.out (by simp [lombardref06_Months.j0])
      | succ kj5 =>
        have H := HA.out
        clear HA
        simp only [lombardref06_Months.j0] at H
        by_cases c11 : x25_5 = true
        · subst c11
          have H1 : (some (0, 2)) = some (r1, r2) := by rw [if_pos rfl] at H; exact H
          clear H
          have H := H1
          clear H1
          simp only [Option.some.injEq, Prod.mk.injEq] at H
          obtain ⟨rfl, rfl⟩ := H
          go_wp2
          repeat (go_quiet (fail); try go_wp2)
          go_ret2
          exact ⟨by first | rfl | (simp [errW_none, errW_some] <;> rfl) | (simp [*, errW_none, errW_some] <;> rfl), by repeat (first | (with_reducible first | exact HB.out | apply below_alloc | apply pw_below_drewN | apply below_drew1 | refine below_set ?_ GE349.out) | exact HB.out)⟩
        · replace c11 := Bool.eq_false_iff.mpr c11
          subst c11
          have H1 : ((lombardref04_Last.f t345 t346).bind fun t350 => (lombardref06_Months.l0 kj5 a1 a2 (t347 == t350) t345 t346 t347)) = some (r1, r2) := by rw [if_neg (show ¬ (false = true) by decide)] at H; exact H
          clear H
          have H := H1
          clear H1
          replace H := Option.bind_eq_some_iff.mp H
          obtain ⟨t350, A120, H⟩ := H
          replace H : (lombardref06_Months.l0 kj5 a1 a2 (t347 == t350) t345 t346 t347) = some (r1, r2) := H
          have A12 := Aside0.mk A120
          clear A120
          have H' := Aside0.mk H
          clear H
          have hcz13_0 : wc.cell? ⟨gb349, 0, none⟩ = some (.int .i64 t345) := (blk_cell BK349.out 0).trans rfl
          have hcz13_1 : wc.cell? ⟨gb349, 1, none⟩ = some (.int .i64 t346) := (blk_cell BK349.out 1).trans rfl
          have hcz13_2 : wc.cell? ⟨gb349, 2, none⟩ = some (.int .i64 t347) := (blk_cell BK349.out 2).trans rfl
          have hfz13_0 := blk_frozen BK349.out 0
          have hfz13_1 := blk_frozen BK349.out 1
          have hfz13_2 := blk_frozen BK349.out 2
          go_wp2_with (first | (go_at_call 24; (with_reducible refine (lombardref04_Last.calls t345 t346 t350 _ A12.out).mono ?_); rintro e w' ⟨rfl, ⟨nd, rfl⟩⟩; (try first | exact ⟨rfl, _, World.drewN_drewN _ _ _⟩ | exact ⟨rfl, _, Eq.trans (World.drewN_drewN _ _ _) (congrArg (World.drewN _) (Nat.add_assoc _ _ _))⟩)))
          repeat (go_quiet (first | (go_at_call 24; (with_reducible refine (lombardref04_Last.calls t345 t346 t350 _ A12.out).mono ?_); rintro e w' ⟨rfl, ⟨nd, rfl⟩⟩; (try first | exact ⟨rfl, _, World.drewN_drewN _ _ _⟩ | exact ⟨rfl, _, Eq.trans (World.drewN_drewN _ _ _) (congrArg (World.drewN _) (Nat.add_assoc _ _ _))⟩))); try go_wp2_with (first | (go_at_call 24; (with_reducible refine (lombardref04_Last.calls t345 t346 t350 _ A12.out).mono ?_); rintro e w' ⟨rfl, ⟨nd, rfl⟩⟩; (try first | exact ⟨rfl, _, World.drewN_drewN _ _ _⟩ | exact ⟨rfl, _, Eq.trans (World.drewN_drewN _ _ _) (congrArg (World.drewN _) (Nat.add_assoc _ _ _))⟩))))
          go_loopg [1] kj5 (fun kq v1 w' => ∃ (x1_2 : Int) (x350000_2 : Int) (x350001_2 : Int), v1 = .int .i64 x1_2 ∧ Aside0 (lombardref06_Months.l0 kq x1_2 a2 (t347 == t350) x350000_2 x350001_2 t347 = some (r1, r2)) ∧ Aside0 (kq ≤ kj5) ∧ Aside0 (w'.heap[gb349]? = some (.cells #[.int .i64 x350000_2, .int .i64 x350001_2, .int .i64 t347] 29 (0, 0))) ∧ Aside0 (Below w.heap.size w w'))
          case atStart => exact ⟨(a1), (t345), (t346), (by first | rfl | (simp; done) | (simp [*]; done)), H', ⟨Nat.le_refl _⟩, ⟨by (with_reducible repeat (first | refine blk_drewN ?_ _ | refine blk_drew ?_ | refine blk_alloc ?_ _)); exact BK349.out⟩, ⟨by repeat (first | (with_reducible first | exact HB.out | apply below_alloc | apply pw_below_drewN | apply below_drew1 | refine below_set ?_ GE349.out) | exact HB.out)⟩⟩
          case round =>
            clear H'
            try clear c1
            try clear p2
            try clear c3
            try clear c5
            try clear c5b0
            try clear c5b1
            try clear c10
            try clear c10b0
            try clear c11
            try clear hcz13_0
            try clear hcz13_1
            try clear hcz13_2
            try clear hcz9_0
            try clear hcz9_1
            try clear hcz9_2
            try clear hfz13_0
            try clear hfz13_1
            try clear hfz13_2
            try clear hfz9_0
            try clear hfz9_1
            try clear hfz9_2
            try clear p2
            obtain ⟨x1_2, x350000_2, x350001_2, rfl, HA, HK2, BK349, HB⟩ := hrel
            cases gk with
            | zero => exact absurd HA.out (by simp [lombardref06_Months.l0])
            | succ k2 =>
              have H := HA.out
              clear HA
              simp only [lombardref06_Months.l0] at H
              by_cases c14 : x1_2 > 0
              · rw [if_pos c14] at H
                have c14b0 : decide (0 < x1_2) = true := decide_eq_true c14
                clear c14
                by_cases c15 : (wrap64 (x350001_2 + 1)) > 12
                · rw [if_pos c15] at H
                  have c15b0 : decide (12 < (wrap64 (x350001_2 + 1))) = true := decide_eq_true c15
                  clear c15
                  have H' := Aside0.mk H
                  clear H
                  have hcz16_0 : wr.cell? ⟨gb349, 0, none⟩ = some (.int .i64 x350000_2) := (blk_cell BK349.out 0).trans rfl
                  have hcz16_1 : wr.cell? ⟨gb349, 1, none⟩ = some (.int .i64 x350001_2) := (blk_cell BK349.out 1).trans rfl
                  have hcz16_2 : wr.cell? ⟨gb349, 2, none⟩ = some (.int .i64 t347) := (blk_cell BK349.out 2).trans rfl
                  have hfz16_0 := blk_frozen BK349.out 0
                  have hfz16_1 := blk_frozen BK349.out 1
                  have hfz16_2 := blk_frozen BK349.out 2
                  go_wp2
                  repeat (go_quiet (fail); try go_wp2)
                  go_roundg k2
                  case measure => have := HJ5.out; have := HK2.out; omega
                  case rel => exact ⟨(wrap64 (x1_2 - 1)), (wrap64 (x350000_2 + 1)), (1), (by first | rfl | (simp; done) | (simp [*]; done)), H', ⟨by have := HJ5.out; have := HK2.out; omega⟩, ⟨by (with_reducible repeat (first | refine blk_drewN ?_ _ | refine blk_drew ?_ | refine blk_alloc ?_ _)); refine blk_put (cs := #[.int .i64 (wrap64 (x350000_2 + 1)), .int .i64 (wrap64 (x350001_2 + 1)), .int .i64 t347]) ?_ 1 _ rfl; (with_reducible repeat (first | refine blk_drewN ?_ _ | refine blk_drew ?_ | refine blk_alloc ?_ _)); refine blk_put (cs := #[.int .i64 x350000_2, .int .i64 (wrap64 (x350001_2 + 1)), .int .i64 t347]) ?_ 0 _ rfl; (with_reducible repeat (first | refine blk_drewN ?_ _ | refine blk_drew ?_ | refine blk_alloc ?_ _)); refine blk_put (cs := #[.int .i64 x350000_2, .int .i64 x350001_2, .int .i64 t347]) ?_ 1 _ rfl; (with_reducible repeat (first | refine blk_drewN ?_ _ | refine blk_drew ?_ | refine blk_alloc ?_ _)); exact BK349.out⟩, ⟨by repeat (first | (with_reducible first | exact HB.out | apply below_alloc | apply pw_below_drewN | apply below_drew1 | refine below_set ?_ GE349.out) | exact HB.out)⟩⟩
                · rw [if_neg c15] at H
                  have c15b0 : decide (12 < (wrap64 (x350001_2 + 1))) = false := decide_eq_false c15
                  clear c15
                  have H' := Aside0.mk H
                  clear H
                  have hcz17_0 : wr.cell? ⟨gb349, 0, none⟩ = some (.int .i64 x350000_2) := (blk_cell BK349.out 0).trans rfl
                  have hcz17_1 : wr.cell? ⟨gb349, 1, none⟩ = some (.int .i64 x350001_2) := (blk_cell BK349.out 1).trans rfl
                  have hcz17_2 : wr.cell? ⟨gb349, 2, none⟩ = some (.int .i64 t347) := (blk_cell BK349.out 2).trans rfl
                  have hfz17_0 := blk_frozen BK349.out 0
                  have hfz17_1 := blk_frozen BK349.out 1
                  have hfz17_2 := blk_frozen BK349.out 2
                  go_wp2
                  repeat (go_quiet (fail); try go_wp2)
                  go_roundg k2
                  case measure => have := HJ5.out; have := HK2.out; omega
                  case rel => exact ⟨(wrap64 (x1_2 - 1)), (x350000_2), (wrap64 (x350001_2 + 1)), (by first | rfl | (simp; done) | (simp [*]; done)), H', ⟨by have := HJ5.out; have := HK2.out; omega⟩, ⟨by (with_reducible repeat (first | refine blk_drewN ?_ _ | refine blk_drew ?_ | refine blk_alloc ?_ _)); refine blk_put (cs := #[.int .i64 x350000_2, .int .i64 x350001_2, .int .i64 t347]) ?_ 1 _ rfl; (with_reducible repeat (first | refine blk_drewN ?_ _ | refine blk_drew ?_ | refine blk_alloc ?_ _)); exact BK349.out⟩, ⟨by repeat (first | (with_reducible first | exact HB.out | apply below_alloc | apply pw_below_drewN | apply below_drew1 | refine below_set ?_ GE349.out) | exact HB.out)⟩⟩
              · rw [if_neg c14] at H
                have c14b0 : decide (0 < x1_2) = false := decide_eq_false c14
                clear c14
                have H' := Aside0.mk H
                clear H
                go_wp2
                repeat (go_quiet (fail); try go_wp2)
                go_loopg [1] k2 (fun kq v1 w' => ∃ (x1_3 : Int) (x350000_3 : Int) (x350001_3 : Int), v1 = .int .i64 x1_3 ∧ Aside0 (lombardref06_Months.l1 kq x1_3 a2 (t347 == t350) x350000_3 x350001_3 t347 = some (r1, r2)) ∧ Aside0 (kq ≤ k2) ∧ Aside0 (w'.heap[gb349]? = some (.cells #[.int .i64 x350000_3, .int .i64 x350001_3, .int .i64 t347] 29 (0, 0))) ∧ Aside0 (Below w.heap.size w w'))
                case atStart => exact ⟨(x1_2), (x350000_2), (x350001_2), (by first | rfl | (simp; done) | (simp [*]; done)), H', ⟨Nat.le_refl _⟩, ⟨by (with_reducible repeat (first | refine blk_drewN ?_ _ | refine blk_drew ?_ | refine blk_alloc ?_ _)); exact BK349.out⟩, ⟨by repeat (first | (with_reducible first | exact HB.out | apply below_alloc | apply pw_below_drewN | apply below_drew1 | refine below_set ?_ GE349.out) | exact HB.out)⟩⟩
                case round =>
                  clear H'
                  try clear c1
                  try clear p2
                  try clear c3
                  try clear c5
                  try clear c5b0
                  try clear c5b1
                  try clear p6
                  try clear c10
                  try clear c10b0
                  try clear c11
                  try clear c14
                  try clear c14b0
                  try clear c15
                  try clear c15b0
                  try clear hcz13_0
                  try clear hcz13_1
                  try clear hcz13_2
                  try clear hcz16_0
                  try clear hcz16_1
                  try clear hcz16_2
                  try clear hcz17_0
                  try clear hcz17_1
                  try clear hcz17_2
                  try clear hcz9_0
                  try clear hcz9_1
                  try clear hcz9_2
                  try clear hfz13_0
                  try clear hfz13_1
                  try clear hfz13_2
                  try clear hfz16_0
                  try clear hfz16_1
                  try clear hfz16_2
                  try clear hfz17_0
                  try clear hfz17_1
                  try clear hfz17_2
                  try clear hfz9_0
                  try clear hfz9_1
                  try clear hfz9_2
                  try clear p2
                  obtain ⟨x1_3, x350000_3, x350001_3, rfl, HA, HK3, BK349, HB⟩ := hrel
                  cases gk with
                  | zero => exact absurd HA.out (by simp [lombardref06_Months.l1])
                  | succ k3 =>
                    have H := HA.out
                    clear HA
                    simp only [lombardref06_Months.l1] at H
                    by_cases c18 : x1_3 < 0
                    · rw [if_pos c18] at H
                      have c18b0 : decide (x1_3 < 0) = true := decide_eq_true c18
                      clear c18
                      by_cases c19 : (wrap64 (x350001_3 - 1)) < 1
                      · rw [if_pos c19] at H
                        have c19b0 : decide ((wrap64 (x350001_3 - 1)) < 1) = true := decide_eq_true c19
                        clear c19
                        have H' := Aside0.mk H
                        clear H
                        have hcz20_0 : wr.cell? ⟨gb349, 0, none⟩ = some (.int .i64 x350000_3) := (blk_cell BK349.out 0).trans rfl
                        have hcz20_1 : wr.cell? ⟨gb349, 1, none⟩ = some (.int .i64 x350001_3) := (blk_cell BK349.out 1).trans rfl
                        have hcz20_2 : wr.cell? ⟨gb349, 2, none⟩ = some (.int .i64 t347) := (blk_cell BK349.out 2).trans rfl
                        have hfz20_0 := blk_frozen BK349.out 0
                        have hfz20_1 := blk_frozen BK349.out 1
                        have hfz20_2 := blk_frozen BK349.out 2
                        go_wp2
                        repeat (go_quiet (fail); try go_wp2)
                        go_roundg k3
                        case measure => have := HJ5.out; have := HK2.out; have := HK3.out; omega
                        case rel => exact ⟨(wrap64 (x1_3 + 1)), (wrap64 (x350000_3 - 1)), (12), (by first | rfl | (simp; done) | (simp [*]; done)), H', ⟨by have := HJ5.out; have := HK2.out; have := HK3.out; omega⟩, ⟨by (with_reducible repeat (first | refine blk_drewN ?_ _ | refine blk_drew ?_ | refine blk_alloc ?_ _)); refine blk_put (cs := #[.int .i64 (wrap64 (x350000_3 - 1)), .int .i64 (wrap64 (x350001_3 - 1)), .int .i64 t347]) ?_ 1 _ rfl; (with_reducible repeat (first | refine blk_drewN ?_ _ | refine blk_drew ?_ | refine blk_alloc ?_ _)); refine blk_put (cs := #[.int .i64 x350000_3, .int .i64 (wrap64 (x350001_3 - 1)), .int .i64 t347]) ?_ 0 _ rfl; (with_reducible repeat (first | refine blk_drewN ?_ _ | refine blk_drew ?_ | refine blk_alloc ?_ _)); refine blk_put (cs := #[.int .i64 x350000_3, .int .i64 x350001_3, .int .i64 t347]) ?_ 1 _ rfl; (with_reducible repeat (first | refine blk_drewN ?_ _ | refine blk_drew ?_ | refine blk_alloc ?_ _)); exact BK349.out⟩, ⟨by repeat (first | (with_reducible first | exact HB.out | apply below_alloc | apply pw_below_drewN | apply below_drew1 | refine below_set ?_ GE349.out) | exact HB.out)⟩⟩
                      · rw [if_neg c19] at H
                        have c19b0 : decide ((wrap64 (x350001_3 - 1)) < 1) = false := decide_eq_false c19
                        clear c19
                        have H' := Aside0.mk H
                        clear H
                        have hcz21_0 : wr.cell? ⟨gb349, 0, none⟩ = some (.int .i64 x350000_3) := (blk_cell BK349.out 0).trans rfl
                        have hcz21_1 : wr.cell? ⟨gb349, 1, none⟩ = some (.int .i64 x350001_3) := (blk_cell BK349.out 1).trans rfl
                        have hcz21_2 : wr.cell? ⟨gb349, 2, none⟩ = some (.int .i64 t347) := (blk_cell BK349.out 2).trans rfl
                        have hfz21_0 := blk_frozen BK349.out 0
                        have hfz21_1 := blk_frozen BK349.out 1
                        have hfz21_2 := blk_frozen BK349.out 2
                        go_wp2
                        repeat (go_quiet (fail); try go_wp2)
                        go_roundg k3
                        case measure => have := HJ5.out; have := HK2.out; have := HK3.out; omega
                        case rel => exact ⟨(wrap64 (x1_3 + 1)), (x350000_3), (wrap64 (x350001_3 - 1)), (by first | rfl | (simp; done) | (simp [*]; done)), H', ⟨by have := HJ5.out; have := HK2.out; have := HK3.out; omega⟩, ⟨by (with_reducible repeat (first | refine blk_drewN ?_ _ | refine blk_drew ?_ | refine blk_alloc ?_ _)); refine blk_put (cs := #[.int .i64 x350000_3, .int .i64 x350001_3, .int .i64 t347]) ?_ 1 _ rfl; (with_reducible repeat (first | refine blk_drewN ?_ _ | refine blk_drew ?_ | refine blk_alloc ?_ _)); exact BK349.out⟩, ⟨by repeat (first | (with_reducible first | exact HB.out | apply below_alloc | apply pw_below_drewN | apply below_drew1 | refine below_set ?_ GE349.out) | exact HB.out)⟩⟩
                    · rw [if_neg c18] at H
                      have c18b0 : decide (x1_3 < 0) = false := decide_eq_false c18
                      clear c18
                      replace H := Option.bind_eq_some_iff.mp H
                      obtain ⟨t351, A220, H⟩ := H
                      replace H : (if t347 > t351 then ((lombardref04_From.f k3 x350000_3 x350001_3 t351).bind fun bt352 => (some (bt352.1, bt352.2))) else (if a2 = true then (if (t347 == t350) = true then ((lombardref04_From.f k3 x350000_3 x350001_3 t351).bind fun bt354 => (some (bt354.1, bt354.2))) else ((lombardref04_From.f k3 x350000_3 x350001_3 t347).bind fun bt356 => (some (bt356.1, bt356.2)))) else ((lombardref04_From.f k3 x350000_3 x350001_3 t347).bind fun bt358 => (some (bt358.1, bt358.2))))) = some (r1, r2) := H
                      have A22 := Aside0.mk A220
                      clear A220
                      have HC23 := Aside0.mk H
                      clear H
                      have hcz24_0 : wr.cell? ⟨gb349, 0, none⟩ = some (.int .i64 x350000_3) := (blk_cell BK349.out 0).trans rfl
                      have hcz24_1 : wr.cell? ⟨gb349, 1, none⟩ = some (.int .i64 x350001_3) := (blk_cell BK349.out 1).trans rfl
                      have hcz24_2 : wr.cell? ⟨gb349, 2, none⟩ = some (.int .i64 t347) := (blk_cell BK349.out 2).trans rfl
                      have hfz24_0 := blk_frozen BK349.out 0
                      have hfz24_1 := blk_frozen BK349.out 1
                      have hfz24_2 := blk_frozen BK349.out 2
                      go_upto_region 18 with (first | (go_at_call 24; (with_reducible refine (lombardref04_Last.calls x350000_3 x350001_3 t351 _ A22.out).mono ?_); rintro e w' ⟨rfl, ⟨nd, rfl⟩⟩; (try first | exact ⟨rfl, _, World.drewN_drewN _ _ _⟩ | exact ⟨rfl, _, Eq.trans (World.drewN_drewN _ _ _) (congrArg (World.drewN _) (Nat.add_assoc _ _ _))⟩)))
                      repeat (go_quiet (first | (go_at_call 24; (with_reducible refine (lombardref04_Last.calls x350000_3 x350001_3 t351 _ A22.out).mono ?_); rintro e w' ⟨rfl, ⟨nd, rfl⟩⟩; (try first | exact ⟨rfl, _, World.drewN_drewN _ _ _⟩ | exact ⟨rfl, _, Eq.trans (World.drewN_drewN _ _ _) (congrArg (World.drewN _) (Nat.add_assoc _ _ _))⟩))); go_upto_region 18 with (first | (go_at_call 24; (with_reducible refine (lombardref04_Last.calls x350000_3 x350001_3 t351 _ A22.out).mono ?_); rintro e w' ⟨rfl, ⟨nd, rfl⟩⟩; (try first | exact ⟨rfl, _, World.drewN_drewN _ _ _⟩ | exact ⟨rfl, _, Eq.trans (World.drewN_drewN _ _ _) (congrArg (World.drewN _) (Nat.add_assoc _ _ _))⟩))))
                      have H := HC23.out
                      clear HC23
                      by_cases c25 : t347 > t351
                      · rw [if_pos c25] at H
                        have c25b0 : decide (t351 < t347) = true := decide_eq_true c25
                        clear c25
                        replace H := Option.bind_eq_some_iff.mp H
                        obtain ⟨⟨t352, t353⟩, A260, H⟩ := H
                        replace H : (some (t352, t353)) = some (r1, r2) := H
                        have A26 := Aside0.mk A260
                        clear A260
                        simp only [Option.some.injEq, Prod.mk.injEq] at H
                        obtain ⟨rfl, rfl⟩ := H
                        have hcz27_0 : wr.cell? ⟨gb349, 0, none⟩ = some (.int .i64 x350000_3) := (blk_cell BK349.out 0).trans rfl
                        have hcz27_1 : wr.cell? ⟨gb349, 1, none⟩ = some (.int .i64 x350001_3) := (blk_cell BK349.out 1).trans rfl
                        have hcz27_2 : wr.cell? ⟨gb349, 2, none⟩ = some (.int .i64 t347) := (blk_cell BK349.out 2).trans rfl
                        have hfz27_0 := blk_frozen BK349.out 0
                        have hfz27_1 := blk_frozen BK349.out 1
                        have hfz27_2 := blk_frozen BK349.out 2
                        go_wp2_with (first | (go_at_call 16; (with_reducible refine (lombardref04_From.calls k3 x350000_3 x350001_3 t351 t352 t353 _ A26.out).mono ?_); rintro e w28 ⟨rfl, hb⟩; have n0_ := Aside0.mk (blk_below (g := gb349) (o := .cells #[.int .i64 x350000_3, .int .i64 x350001_3, .int .i64 t351] 29 (0, 0)) (by (with_reducible repeat (first | refine blk_drewN ?_ _ | refine blk_drew ?_ | refine blk_alloc ?_ _)); refine blk_put (cs := #[.int .i64 x350000_3, .int .i64 x350001_3, .int .i64 t347]) ?_ 2 _ rfl; (with_reducible repeat (first | refine blk_drewN ?_ _ | refine blk_drew ?_ | refine blk_alloc ?_ _)); exact BK349.out) hb); have n1_ := Aside0.mk (below_step (by repeat (first | (with_reducible first | exact HB.out | apply below_alloc | apply pw_below_drewN | apply below_drew1 | refine below_set ?_ GE349.out) | exact HB.out)) hb); clear BK349; clear HB; have BK349 := n0_; have HB := n1_; clear n0_ n1_; (try clear hb); (try clear hb2); (try clear hk); (try clear hi)))
                        repeat (go_quiet (first | (go_at_call 16; (with_reducible refine (lombardref04_From.calls k3 x350000_3 x350001_3 t351 t352 t353 _ A26.out).mono ?_); rintro e w28 ⟨rfl, hb⟩; have n0_ := Aside0.mk (blk_below (g := gb349) (o := .cells #[.int .i64 x350000_3, .int .i64 x350001_3, .int .i64 t351] 29 (0, 0)) (by (with_reducible repeat (first | refine blk_drewN ?_ _ | refine blk_drew ?_ | refine blk_alloc ?_ _)); refine blk_put (cs := #[.int .i64 x350000_3, .int .i64 x350001_3, .int .i64 t347]) ?_ 2 _ rfl; (with_reducible repeat (first | refine blk_drewN ?_ _ | refine blk_drew ?_ | refine blk_alloc ?_ _)); exact BK349.out) hb); have n1_ := Aside0.mk (below_step (by repeat (first | (with_reducible first | exact HB.out | apply below_alloc | apply pw_below_drewN | apply below_drew1 | refine below_set ?_ GE349.out) | exact HB.out)) hb); clear BK349; clear HB; have BK349 := n0_; have HB := n1_; clear n0_ n1_; (try clear hb); (try clear hb2); (try clear hk); (try clear hi))); try go_wp2_with (first | (go_at_call 16; (with_reducible refine (lombardref04_From.calls k3 x350000_3 x350001_3 t351 t352 t353 _ A26.out).mono ?_); rintro e w28 ⟨rfl, hb⟩; have n0_ := Aside0.mk (blk_below (g := gb349) (o := .cells #[.int .i64 x350000_3, .int .i64 x350001_3, .int .i64 t351] 29 (0, 0)) (by (with_reducible repeat (first | refine blk_drewN ?_ _ | refine blk_drew ?_ | refine blk_alloc ?_ _)); refine blk_put (cs := #[.int .i64 x350000_3, .int .i64 x350001_3, .int .i64 t347]) ?_ 2 _ rfl; (with_reducible repeat (first | refine blk_drewN ?_ _ | refine blk_drew ?_ | refine blk_alloc ?_ _)); exact BK349.out) hb); have n1_ := Aside0.mk (below_step (by repeat (first | (with_reducible first | exact HB.out | apply below_alloc | apply pw_below_drewN | apply below_drew1 | refine below_set ?_ GE349.out) | exact HB.out)) hb); clear BK349; clear HB; have BK349 := n0_; have HB := n1_; clear n0_ n1_; (try clear hb); (try clear hb2); (try clear hk); (try clear hi))))
                        go_ret2
                        exact ⟨by first | rfl | (simp [errW_none, errW_some] <;> rfl) | (simp [*, errW_none, errW_some] <;> rfl), by repeat (first | (with_reducible first | exact HB.out | apply below_alloc | apply pw_below_drewN | apply below_drew1 | refine below_set ?_ GE349.out) | exact HB.out)⟩
                      · rw [if_neg c25] at H
                        have c25b0 : decide (t351 < t347) = false := decide_eq_false c25
                        clear c25
                        by_cases c29 : a2 = true
                        · subst c29
                          have H1 : (if (t347 == t350) = true then ((lombardref04_From.f k3 x350000_3 x350001_3 t351).bind fun bt354 => (some (bt354.1, bt354.2))) else ((lombardref04_From.f k3 x350000_3 x350001_3 t347).bind fun bt356 => (some (bt356.1, bt356.2)))) = some (r1, r2) := by rw [if_pos rfl] at H; exact H
                          clear H
                          have H := H1
                          clear H1
                          by_cases c30 : (t347 == t350) = true
                          · rw [if_pos c30] at H
                            have c30b0 : (t347 == t350) = true := c30
                            (try (have c30b1 : decide (t347 = t350) = true := by simpa using c30))
                            (try (have c30b2 : (t347 == t350) = true := by simpa using c30))
                            clear c30
                            replace H := Option.bind_eq_some_iff.mp H
                            obtain ⟨⟨t354, t355⟩, A310, H⟩ := H
                            replace H : (some (t354, t355)) = some (r1, r2) := H
                            have A31 := Aside0.mk A310
                            clear A310
                            simp only [Option.some.injEq, Prod.mk.injEq] at H
                            obtain ⟨rfl, rfl⟩ := H
                            have hcz32_0 : wr.cell? ⟨gb349, 0, none⟩ = some (.int .i64 x350000_3) := (blk_cell BK349.out 0).trans rfl
                            have hcz32_1 : wr.cell? ⟨gb349, 1, none⟩ = some (.int .i64 x350001_3) := (blk_cell BK349.out 1).trans rfl
                            have hcz32_2 : wr.cell? ⟨gb349, 2, none⟩ = some (.int .i64 t347) := (blk_cell BK349.out 2).trans rfl
                            have hfz32_0 := blk_frozen BK349.out 0
                            have hfz32_1 := blk_frozen BK349.out 1
                            have hfz32_2 := blk_frozen BK349.out 2
                            go_wp2_with (first | (go_at_call 16; (with_reducible refine (lombardref04_From.calls k3 x350000_3 x350001_3 t351 t354 t355 _ A31.out).mono ?_); rintro e w33 ⟨rfl, hb⟩; have n0_ := Aside0.mk (blk_below (g := gb349) (o := .cells #[.int .i64 x350000_3, .int .i64 x350001_3, .int .i64 t351] 29 (0, 0)) (by (with_reducible repeat (first | refine blk_drewN ?_ _ | refine blk_drew ?_ | refine blk_alloc ?_ _)); refine blk_put (cs := #[.int .i64 x350000_3, .int .i64 x350001_3, .int .i64 t347]) ?_ 2 _ rfl; (with_reducible repeat (first | refine blk_drewN ?_ _ | refine blk_drew ?_ | refine blk_alloc ?_ _)); exact BK349.out) hb); have n1_ := Aside0.mk (below_step (by repeat (first | (with_reducible first | exact HB.out | apply below_alloc | apply pw_below_drewN | apply below_drew1 | refine below_set ?_ GE349.out) | exact HB.out)) hb); clear BK349; clear HB; have BK349 := n0_; have HB := n1_; clear n0_ n1_; (try clear hb); (try clear hb2); (try clear hk); (try clear hi)))
                            repeat (go_quiet (first | (go_at_call 16; (with_reducible refine (lombardref04_From.calls k3 x350000_3 x350001_3 t351 t354 t355 _ A31.out).mono ?_); rintro e w33 ⟨rfl, hb⟩; have n0_ := Aside0.mk (blk_below (g := gb349) (o := .cells #[.int .i64 x350000_3, .int .i64 x350001_3, .int .i64 t351] 29 (0, 0)) (by (with_reducible repeat (first | refine blk_drewN ?_ _ | refine blk_drew ?_ | refine blk_alloc ?_ _)); refine blk_put (cs := #[.int .i64 x350000_3, .int .i64 x350001_3, .int .i64 t347]) ?_ 2 _ rfl; (with_reducible repeat (first | refine blk_drewN ?_ _ | refine blk_drew ?_ | refine blk_alloc ?_ _)); exact BK349.out) hb); have n1_ := Aside0.mk (below_step (by repeat (first | (with_reducible first | exact HB.out | apply below_alloc | apply pw_below_drewN | apply below_drew1 | refine below_set ?_ GE349.out) | exact HB.out)) hb); clear BK349; clear HB; have BK349 := n0_; have HB := n1_; clear n0_ n1_; (try clear hb); (try clear hb2); (try clear hk); (try clear hi))); try go_wp2_with (first | (go_at_call 16; (with_reducible refine (lombardref04_From.calls k3 x350000_3 x350001_3 t351 t354 t355 _ A31.out).mono ?_); rintro e w33 ⟨rfl, hb⟩; have n0_ := Aside0.mk (blk_below (g := gb349) (o := .cells #[.int .i64 x350000_3, .int .i64 x350001_3, .int .i64 t351] 29 (0, 0)) (by (with_reducible repeat (first | refine blk_drewN ?_ _ | refine blk_drew ?_ | refine blk_alloc ?_ _)); refine blk_put (cs := #[.int .i64 x350000_3, .int .i64 x350001_3, .int .i64 t347]) ?_ 2 _ rfl; (with_reducible repeat (first | refine blk_drewN ?_ _ | refine blk_drew ?_ | refine blk_alloc ?_ _)); exact BK349.out) hb); have n1_ := Aside0.mk (below_step (by repeat (first | (with_reducible first | exact HB.out | apply below_alloc | apply pw_below_drewN | apply below_drew1 | refine below_set ?_ GE349.out) | exact HB.out)) hb); clear BK349; clear HB; have BK349 := n0_; have HB := n1_; clear n0_ n1_; (try clear hb); (try clear hb2); (try clear hk); (try clear hi))))
                            go_ret2
                            exact ⟨by first | rfl | (simp [errW_none, errW_some] <;> rfl) | (simp [*, errW_none, errW_some] <;> rfl), by repeat (first | (with_reducible first | exact HB.out | apply below_alloc | apply pw_below_drewN | apply below_drew1 | refine below_set ?_ GE349.out) | exact HB.out)⟩
                          · rw [if_neg c30] at H
                            have c30b0 : (t347 == t350) = false := by simpa using c30
                            (try (have c30b1 : decide (t347 = t350) = false := by simpa using c30))
                            (try (have c30b2 : (t347 == t350) = false := by simpa using c30))
                            (try (have c30b3 : ¬ (t347 = t350) := by simpa using c30))
                            clear c30
                            replace H := Option.bind_eq_some_iff.mp H
                            obtain ⟨⟨t356, t357⟩, A340, H⟩ := H
                            replace H : (some (t356, t357)) = some (r1, r2) := H
                            have A34 := Aside0.mk A340
                            clear A340
                            simp only [Option.some.injEq, Prod.mk.injEq] at H
                            obtain ⟨rfl, rfl⟩ := H
                            have hcz35_0 : wr.cell? ⟨gb349, 0, none⟩ = some (.int .i64 x350000_3) := (blk_cell BK349.out 0).trans rfl
                            have hcz35_1 : wr.cell? ⟨gb349, 1, none⟩ = some (.int .i64 x350001_3) := (blk_cell BK349.out 1).trans rfl
                            have hcz35_2 : wr.cell? ⟨gb349, 2, none⟩ = some (.int .i64 t347) := (blk_cell BK349.out 2).trans rfl
                            have hfz35_0 := blk_frozen BK349.out 0
                            have hfz35_1 := blk_frozen BK349.out 1
                            have hfz35_2 := blk_frozen BK349.out 2
                            go_wp2_with (first | (go_at_call 16; (with_reducible refine (lombardref04_From.calls k3 x350000_3 x350001_3 t347 t356 t357 _ A34.out).mono ?_); rintro e w36 ⟨rfl, hb⟩; have n0_ := Aside0.mk (blk_below (g := gb349) (o := .cells #[.int .i64 x350000_3, .int .i64 x350001_3, .int .i64 t347] 29 (0, 0)) (by (with_reducible repeat (first | refine blk_drewN ?_ _ | refine blk_drew ?_ | refine blk_alloc ?_ _)); exact BK349.out) hb); have n1_ := Aside0.mk (below_step (by repeat (first | (with_reducible first | exact HB.out | apply below_alloc | apply pw_below_drewN | apply below_drew1 | refine below_set ?_ GE349.out) | exact HB.out)) hb); clear BK349; clear HB; have BK349 := n0_; have HB := n1_; clear n0_ n1_; (try clear hb); (try clear hb2); (try clear hk); (try clear hi)))
                            repeat (go_quiet (first | (go_at_call 16; (with_reducible refine (lombardref04_From.calls k3 x350000_3 x350001_3 t347 t356 t357 _ A34.out).mono ?_); rintro e w36 ⟨rfl, hb⟩; have n0_ := Aside0.mk (blk_below (g := gb349) (o := .cells #[.int .i64 x350000_3, .int .i64 x350001_3, .int .i64 t347] 29 (0, 0)) (by (with_reducible repeat (first | refine blk_drewN ?_ _ | refine blk_drew ?_ | refine blk_alloc ?_ _)); exact BK349.out) hb); have n1_ := Aside0.mk (below_step (by repeat (first | (with_reducible first | exact HB.out | apply below_alloc | apply pw_below_drewN | apply below_drew1 | refine below_set ?_ GE349.out) | exact HB.out)) hb); clear BK349; clear HB; have BK349 := n0_; have HB := n1_; clear n0_ n1_; (try clear hb); (try clear hb2); (try clear hk); (try clear hi))); try go_wp2_with (first | (go_at_call 16; (with_reducible refine (lombardref04_From.calls k3 x350000_3 x350001_3 t347 t356 t357 _ A34.out).mono ?_); rintro e w36 ⟨rfl, hb⟩; have n0_ := Aside0.mk (blk_below (g := gb349) (o := .cells #[.int .i64 x350000_3, .int .i64 x350001_3, .int .i64 t347] 29 (0, 0)) (by (with_reducible repeat (first | refine blk_drewN ?_ _ | refine blk_drew ?_ | refine blk_alloc ?_ _)); exact BK349.out) hb); have n1_ := Aside0.mk (below_step (by repeat (first | (with_reducible first | exact HB.out | apply below_alloc | apply pw_below_drewN | apply below_drew1 | refine below_set ?_ GE349.out) | exact HB.out)) hb); clear BK349; clear HB; have BK349 := n0_; have HB := n1_; clear n0_ n1_; (try clear hb); (try clear hb2); (try clear hk); (try clear hi))))
                            go_ret2
                            exact ⟨by first | rfl | (simp [errW_none, errW_some] <;> rfl) | (simp [*, errW_none, errW_some] <;> rfl), by repeat (first | (with_reducible first | exact HB.out | apply below_alloc | apply pw_below_drewN | apply below_drew1 | refine below_set ?_ GE349.out) | exact HB.out)⟩
                        · replace c29 := Bool.eq_false_iff.mpr c29
                          subst c29
                          have H1 : ((lombardref04_From.f k3 x350000_3 x350001_3 t347).bind fun bt358 => (some (bt358.1, bt358.2))) = some (r1, r2) := by rw [if_neg (show ¬ (false = true) by decide)] at H; exact H
                          clear H
                          have H := H1
                          clear H1
                          replace H := Option.bind_eq_some_iff.mp H
                          obtain ⟨⟨t358, t359⟩, A370, H⟩ := H
                          replace H : (some (t358, t359)) = some (r1, r2) := H
                          have A37 := Aside0.mk A370
                          clear A370
                          simp only [Option.some.injEq, Prod.mk.injEq] at H
                          obtain ⟨rfl, rfl⟩ := H
                          have hcz38_0 : wr.cell? ⟨gb349, 0, none⟩ = some (.int .i64 x350000_3) := (blk_cell BK349.out 0).trans rfl
                          have hcz38_1 : wr.cell? ⟨gb349, 1, none⟩ = some (.int .i64 x350001_3) := (blk_cell BK349.out 1).trans rfl
                          have hcz38_2 : wr.cell? ⟨gb349, 2, none⟩ = some (.int .i64 t347) := (blk_cell BK349.out 2).trans rfl
                          have hfz38_0 := blk_frozen BK349.out 0
                          have hfz38_1 := blk_frozen BK349.out 1
                          have hfz38_2 := blk_frozen BK349.out 2
                          go_wp2_with (first | (go_at_call 16; (with_reducible refine (lombardref04_From.calls k3 x350000_3 x350001_3 t347 t358 t359 _ A37.out).mono ?_); rintro e w39 ⟨rfl, hb⟩; have n0_ := Aside0.mk (blk_below (g := gb349) (o := .cells #[.int .i64 x350000_3, .int .i64 x350001_3, .int .i64 t347] 29 (0, 0)) (by (with_reducible repeat (first | refine blk_drewN ?_ _ | refine blk_drew ?_ | refine blk_alloc ?_ _)); exact BK349.out) hb); have n1_ := Aside0.mk (below_step (by repeat (first | (with_reducible first | exact HB.out | apply below_alloc | apply pw_below_drewN | apply below_drew1 | refine below_set ?_ GE349.out) | exact HB.out)) hb); clear BK349; clear HB; have BK349 := n0_; have HB := n1_; clear n0_ n1_; (try clear hb); (try clear hb2); (try clear hk); (try clear hi)))
                          repeat (go_quiet (first | (go_at_call 16; (with_reducible refine (lombardref04_From.calls k3 x350000_3 x350001_3 t347 t358 t359 _ A37.out).mono ?_); rintro e w39 ⟨rfl, hb⟩; have n0_ := Aside0.mk (blk_below (g := gb349) (o := .cells #[.int .i64 x350000_3, .int .i64 x350001_3, .int .i64 t347] 29 (0, 0)) (by (with_reducible repeat (first | refine blk_drewN ?_ _ | refine blk_drew ?_ | refine blk_alloc ?_ _)); exact BK349.out) hb); have n1_ := Aside0.mk (below_step (by repeat (first | (with_reducible first | exact HB.out | apply below_alloc | apply pw_below_drewN | apply below_drew1 | refine below_set ?_ GE349.out) | exact HB.out)) hb); clear BK349; clear HB; have BK349 := n0_; have HB := n1_; clear n0_ n1_; (try clear hb); (try clear hb2); (try clear hk); (try clear hi))); try go_wp2_with (first | (go_at_call 16; (with_reducible refine (lombardref04_From.calls k3 x350000_3 x350001_3 t347 t358 t359 _ A37.out).mono ?_); rintro e w39 ⟨rfl, hb⟩; have n0_ := Aside0.mk (blk_below (g := gb349) (o := .cells #[.int .i64 x350000_3, .int .i64 x350001_3, .int .i64 t347] 29 (0, 0)) (by (with_reducible repeat (first | refine blk_drewN ?_ _ | refine blk_drew ?_ | refine blk_alloc ?_ _)); exact BK349.out) hb); have n1_ := Aside0.mk (below_step (by repeat (first | (with_reducible first | exact HB.out | apply below_alloc | apply pw_below_drewN | apply below_drew1 | refine below_set ?_ GE349.out) | exact HB.out)) hb); clear BK349; clear HB; have BK349 := n0_; have HB := n1_; clear n0_ n1_; (try clear hb); (try clear hb2); (try clear hk); (try clear hi))))
                          go_ret2
                          exact ⟨by first | rfl | (simp [errW_none, errW_some] <;> rfl) | (simp [*, errW_none, errW_some] <;> rfl), by repeat (first | (with_reducible first | exact HB.out | apply below_alloc | apply pw_below_drewN | apply below_drew1 | refine below_set ?_ GE349.out) | exact HB.out)⟩
  · rw [if_neg c5] at H
    have c5b0 : (t348 == 0) = false := beq_eq_false_iff_ne.mpr c5
    have c5b1 : (t348 != 0) = true := bne_iff_ne.mpr c5
    simp only [Option.some.injEq, Prod.mk.injEq] at H
    obtain ⟨rfl, rfl⟩ := H
    go_enter Try.func31, Try.ntmps31
    go_wp2_with (first | (go_at_call 18; (with_reducible refine (lombardref04_To.calls k a0 t345 t346 t347 t348 _ A4.out).mono ?_); rintro e w40 ⟨rfl, hb⟩; have n0_ := Aside0.mk (below_step (by repeat (first | (with_reducible first | exact HB.out | apply below_alloc | apply pw_below_drewN | apply below_drew1) | exact HB.out)) hb); clear HB; have HB := n0_; clear n0_; (try clear hb); (try clear hb2); (try clear hk); (try clear hi)) | ((with_reducible refine gate_dst (N := 8) rfl ?_); refine box_event ?hg (N := 8) ?hd (cs := #[.int .i64 0, .int .i64 0, .int .i64 0]) (t := 29) ?hr ?_; (case hd => rfl); (case hg => rfl); (case hr => first | (go_simp; done) | (go_simp; rfl)); intro gb349 hg w41 hbox hb; have n0_ := Aside0.mk (below_step (by repeat (first | (with_reducible first | exact HB.out | apply below_alloc | apply pw_below_drewN | apply below_drew1) | exact HB.out)) hb); have n1_ := Aside0.mk (hbox); have n2_ := Aside0.mk ((by rw [hg]; exact (below_size (by repeat (first | (with_reducible first | exact HB.out | apply below_alloc | apply pw_below_drewN | apply below_drew1) | exact HB.out))) : w.heap.size ≤ gb349)); have n3_ := Aside0.mk ((by rw [hg]; exact (below_size (by repeat (first | (with_reducible first | exact HB.out | apply below_alloc | apply pw_below_drewN | apply below_drew1) | exact HB.out))) : w.heap.size ≤ gb349)); clear HB; have HB := n0_; have BK349 := n1_; have GW349 := n2_; have GE349 := n3_; clear n0_ n1_ n2_ n3_; clear hb hbox hg; have hcz42_0 : w41.cell? ⟨gb349, 0, none⟩ = some (.int .i64 0) := (blk_cell BK349.out 0).trans rfl; have hcz42_1 : w41.cell? ⟨gb349, 1, none⟩ = some (.int .i64 0) := (blk_cell BK349.out 1).trans rfl; have hcz42_2 : w41.cell? ⟨gb349, 2, none⟩ = some (.int .i64 0) := (blk_cell BK349.out 2).trans rfl; have hfz42_0 := blk_frozen BK349.out 0; have hfz42_1 := blk_frozen BK349.out 1; have hfz42_2 := blk_frozen BK349.out 2))
    repeat (go_quiet (first | (go_at_call 18; (with_reducible refine (lombardref04_To.calls k a0 t345 t346 t347 t348 _ A4.out).mono ?_); rintro e w40 ⟨rfl, hb⟩; have n0_ := Aside0.mk (below_step (by repeat (first | (with_reducible first | exact HB.out | apply below_alloc | apply pw_below_drewN | apply below_drew1) | exact HB.out)) hb); clear HB; have HB := n0_; clear n0_; (try clear hb); (try clear hb2); (try clear hk); (try clear hi)) | ((with_reducible refine gate_dst (N := 8) rfl ?_); refine box_event ?hg (N := 8) ?hd (cs := #[.int .i64 0, .int .i64 0, .int .i64 0]) (t := 29) ?hr ?_; (case hd => rfl); (case hg => rfl); (case hr => first | (go_simp; done) | (go_simp; rfl)); intro gb349 hg w41 hbox hb; have n0_ := Aside0.mk (below_step (by repeat (first | (with_reducible first | exact HB.out | apply below_alloc | apply pw_below_drewN | apply below_drew1) | exact HB.out)) hb); have n1_ := Aside0.mk (hbox); have n2_ := Aside0.mk ((by rw [hg]; exact (below_size (by repeat (first | (with_reducible first | exact HB.out | apply below_alloc | apply pw_below_drewN | apply below_drew1) | exact HB.out))) : w.heap.size ≤ gb349)); have n3_ := Aside0.mk ((by rw [hg]; exact (below_size (by repeat (first | (with_reducible first | exact HB.out | apply below_alloc | apply pw_below_drewN | apply below_drew1) | exact HB.out))) : w.heap.size ≤ gb349)); clear HB; have HB := n0_; have BK349 := n1_; have GW349 := n2_; have GE349 := n3_; clear n0_ n1_ n2_ n3_; clear hb hbox hg; have hcz42_0 : w41.cell? ⟨gb349, 0, none⟩ = some (.int .i64 0) := (blk_cell BK349.out 0).trans rfl; have hcz42_1 : w41.cell? ⟨gb349, 1, none⟩ = some (.int .i64 0) := (blk_cell BK349.out 1).trans rfl; have hcz42_2 : w41.cell? ⟨gb349, 2, none⟩ = some (.int .i64 0) := (blk_cell BK349.out 2).trans rfl; have hfz42_0 := blk_frozen BK349.out 0; have hfz42_1 := blk_frozen BK349.out 1; have hfz42_2 := blk_frozen BK349.out 2)); try go_wp2_with (first | (go_at_call 18; (with_reducible refine (lombardref04_To.calls k a0 t345 t346 t347 t348 _ A4.out).mono ?_); rintro e w40 ⟨rfl, hb⟩; have n0_ := Aside0.mk (below_step (by repeat (first | (with_reducible first | exact HB.out | apply below_alloc | apply pw_below_drewN | apply below_drew1) | exact HB.out)) hb); clear HB; have HB := n0_; clear n0_; (try clear hb); (try clear hb2); (try clear hk); (try clear hi)) | ((with_reducible refine gate_dst (N := 8) rfl ?_); refine box_event ?hg (N := 8) ?hd (cs := #[.int .i64 0, .int .i64 0, .int .i64 0]) (t := 29) ?hr ?_; (case hd => rfl); (case hg => rfl); (case hr => first | (go_simp; done) | (go_simp; rfl)); intro gb349 hg w41 hbox hb; have n0_ := Aside0.mk (below_step (by repeat (first | (with_reducible first | exact HB.out | apply below_alloc | apply pw_below_drewN | apply below_drew1) | exact HB.out)) hb); have n1_ := Aside0.mk (hbox); have n2_ := Aside0.mk ((by rw [hg]; exact (below_size (by repeat (first | (with_reducible first | exact HB.out | apply below_alloc | apply pw_below_drewN | apply below_drew1) | exact HB.out))) : w.heap.size ≤ gb349)); have n3_ := Aside0.mk ((by rw [hg]; exact (below_size (by repeat (first | (with_reducible first | exact HB.out | apply below_alloc | apply pw_below_drewN | apply below_drew1) | exact HB.out))) : w.heap.size ≤ gb349)); clear HB; have HB := n0_; have BK349 := n1_; have GW349 := n2_; have GE349 := n3_; clear n0_ n1_ n2_ n3_; clear hb hbox hg; have hcz42_0 : w41.cell? ⟨gb349, 0, none⟩ = some (.int .i64 0) := (blk_cell BK349.out 0).trans rfl; have hcz42_1 : w41.cell? ⟨gb349, 1, none⟩ = some (.int .i64 0) := (blk_cell BK349.out 1).trans rfl; have hcz42_2 : w41.cell? ⟨gb349, 2, none⟩ = some (.int .i64 0) := (blk_cell BK349.out 2).trans rfl; have hfz42_0 := blk_frozen BK349.out 0; have hfz42_1 := blk_frozen BK349.out 1; have hfz42_2 := blk_frozen BK349.out 2)))
    go_ret2
    exact ⟨by first | rfl | (simp [errW_none, errW_some] <;> rfl) | (simp [*, errW_none, errW_some] <;> rfl), by repeat (first | (with_reducible first | exact HB.out | apply below_alloc | apply pw_below_drewN | apply below_drew1 | refine below_set ?_ GE349.out) | exact HB.out)⟩

end Go.Proofs.Ytdfaedikjfbbjaa.S
