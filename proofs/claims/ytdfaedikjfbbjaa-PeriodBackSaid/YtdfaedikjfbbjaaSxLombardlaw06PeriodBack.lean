/- Printed by a program of this session out of the translation: what each function called here computes, and that its call comes to just that. Conditions: none beyond those that each theorem names. -/
import Derived.Test.YtdfaedikjfbbjaaSx0
import Derived.Test.YtdfaedikjfbbjaaSxDayTo
import Derived.Test.YtdfaedikjfbbjaaSxPeriodMonths
import Derived.Test.YtdfaedikjfbbjaaSxLombardlaw06Alive
namespace Go.Proofs.Ytdfaedikjfbbjaa.S
open Go.RowKit Go.Proofs.YtdfaedikjfbbjaaW.PrintWords Go.Proofs.YtdfaedikjfbbjaaW.PrintLast Go.Proofs.YtdfaedikjfbbjaaW.PrintMore
attribute [local go_sem] max2_int min2_int max_two min_two max_three min_three max_four min_four   -- for this text's walks alone
attribute [local go_sem] Go.Proofs.Ytdfaedikjfbbjaa.XWalk.cell2
set_option linter.unusedVariables false
set_option linter.unusedSimpArgs false

/-! ### lombardlaw06_PeriodBack: function 9 -/
mutual
def lombardlaw06_PeriodBack.j0 : Nat → Int → Int → Int → Bool → Option (Bool)
  | 0, _, _, _, _ => none
  | k + 1, x0, x1, x2, x30 => if x30 = true then (some true) else ((period_Months.f k x0 x1 false).bind fun bt314 => (if bt314.2 = 0 then ((period_Months.f k bt314.1 (wrap64 (-x1)) false).bind fun bt316 => (if bt316.2 = 0 then (lombardlaw06_PeriodBack.j1 k x0 x1 x2 bt314.1 (bt316.1 != x0)) else (lombardlaw06_PeriodBack.j1 k x0 x1 x2 bt314.1 true))) else (some (bt314.1 == 0))))
def lombardlaw06_PeriodBack.j1 : Nat → Int → Int → Int → Int → Bool → Option (Bool)
  | 0, _, _, _, _, _ => none
  | k + 1, x0, x1, x2, x9, x54 => if x54 = true then (some false) else ((period_Months.f k x9 x2 false).bind fun bt318 => (if bt318.2 = 0 then (if x2 < (-12000) then (some true) else (if x2 > 12000 then (some true) else (if (wrap64 (x1 + x2)) < (-12000) then (some true) else (if (wrap64 (x1 + x2)) > 12000 then (some true) else ((period_Months.f k x0 (wrap64 (x1 + x2)) false).bind fun bt320 => (if bt320.2 = 0 then (some (bt320.1 == bt318.1)) else (some false))))))) else (some true)))
end
def lombardlaw06_PeriodBack.f (k : Nat) (a0 : Int) (a1 : Int) (a2 : Int) : Option (Bool) := (lombardlaw06_alive.f k).bind fun t308 => (if t308 = true then ((day_To.f k a0).bind fun bt309 => (if bt309.2.2.2 = 0 then (lombardlaw06_PeriodBack.j0 k a0 a1 a2 (decide (bt309.2.2.1 > 28))) else (lombardlaw06_PeriodBack.j0 k a0 a1 a2 true))) else (some false))
theorem lombardlaw06_PeriodBack.mono_l : ∀ k, (∀ y0 y1 y2 y3, LeO (lombardlaw06_PeriodBack.j0 k y0 y1 y2 y3) (lombardlaw06_PeriodBack.j0 (k + 1) y0 y1 y2 y3)) ∧ (∀ y0 y1 y2 y3 y4, LeO (lombardlaw06_PeriodBack.j1 k y0 y1 y2 y3 y4) (lombardlaw06_PeriodBack.j1 (k + 1) y0 y1 y2 y3 y4))
  | 0 => ⟨fun _ _ _ _ r h => by simp [lombardlaw06_PeriodBack.j0] at h, fun _ _ _ _ _ r h => by simp [lombardlaw06_PeriodBack.j1] at h⟩
  | k + 1 => by
    obtain ⟨ih0, ih1⟩ := lombardlaw06_PeriodBack.mono_l k
    refine ⟨?_, ?_⟩
    · intro y0 y1 y2 y3
      unfold lombardlaw06_PeriodBack.j0
      repeat' first
      | (with_reducible exact ih0 _ _ _ _)
      | (with_reducible exact ih1 _ _ _ _ _)
      | (with_reducible exact day_To.mono _ _)
      | (with_reducible exact lombardlaw06_alive.mono _)
      | (with_reducible exact period_Months.mono _ _ _ _)
      | (with_reducible exact LeO.refl _)
      | (with_reducible exact LeO.none _)
      | (with_reducible refine LeO.ite ?_ ?_)
      | (with_reducible refine LeO.bind ?_ (fun _ => ?_))
      | exact ih0 _ _ _ _
      | exact ih1 _ _ _ _ _
      | exact day_To.mono _ _
      | exact lombardlaw06_alive.mono _
      | exact period_Months.mono _ _ _ _
      | exact LeO.none _
      | refine LeO.ite ?_ ?_
      | refine LeO.bind ?_ (fun _ => ?_)
    · intro y0 y1 y2 y3 y4
      unfold lombardlaw06_PeriodBack.j1
      repeat' first
      | (with_reducible exact ih0 _ _ _ _)
      | (with_reducible exact ih1 _ _ _ _ _)
      | (with_reducible exact day_To.mono _ _)
      | (with_reducible exact lombardlaw06_alive.mono _)
      | (with_reducible exact period_Months.mono _ _ _ _)
      | (with_reducible exact LeO.refl _)
      | (with_reducible exact LeO.none _)
      | (with_reducible refine LeO.ite ?_ ?_)
      | (with_reducible refine LeO.bind ?_ (fun _ => ?_))
      | exact ih0 _ _ _ _
      | exact ih1 _ _ _ _ _
      | exact day_To.mono _ _
      | exact lombardlaw06_alive.mono _
      | exact period_Months.mono _ _ _ _
      | exact LeO.none _
      | refine LeO.ite ?_ ?_
      | refine LeO.bind ?_ (fun _ => ?_)
theorem lombardlaw06_PeriodBack.mono : ∀ a0 a1 a2 k, LeO (lombardlaw06_PeriodBack.f k a0 a1 a2) (lombardlaw06_PeriodBack.f (k + 1) a0 a1 a2) := by
  intro a0 a1 a2 k
  obtain ⟨ih0, ih1⟩ := lombardlaw06_PeriodBack.mono_l k
  unfold lombardlaw06_PeriodBack.f
  repeat' first
      | (with_reducible exact ih0 _ _ _ _)
      | (with_reducible exact ih1 _ _ _ _ _)
      | (with_reducible exact day_To.mono _ _)
      | (with_reducible exact lombardlaw06_alive.mono _)
      | (with_reducible exact period_Months.mono _ _ _ _)
      | (with_reducible exact LeO.refl _)
      | (with_reducible exact LeO.none _)
      | (with_reducible refine LeO.ite ?_ ?_)
      | (with_reducible refine LeO.bind ?_ (fun _ => ?_))
      | exact ih0 _ _ _ _
      | exact ih1 _ _ _ _ _
      | exact day_To.mono _ _
      | exact lombardlaw06_alive.mono _
      | exact period_Months.mono _ _ _ _
      | exact LeO.none _
      | refine LeO.ite ?_ ?_
      | refine LeO.bind ?_ (fun _ => ?_)
set_option maxHeartbeats 8000000 in
set_option maxRecDepth 100000 in
theorem lombardlaw06_PeriodBack.calls (k : Nat) (a0 : Int) (a1 : Int) (a2 : Int) (r : Bool) (w : World) (h : lombardlaw06_PeriodBack.f k a0 a1 a2 = some r) :
    Calls Try.prog 9 #[.int .i64 a0, .int .i64 a1, .int .i64 a2] w fun e w' => e = .returned (.bool r) ∧ Below w.heap.size w w' := by
  have hu23 := Try.underlying23
  have HB := Aside0.mk (Below.refl w.heap.size w)
  have H : ((lombardlaw06_alive.f k).bind fun t308 => (if t308 = true then ((day_To.f k a0).bind fun bt309 => (if bt309.2.2.2 = 0 then (lombardlaw06_PeriodBack.j0 k a0 a1 a2 (decide (bt309.2.2.1 > 28))) else (lombardlaw06_PeriodBack.j0 k a0 a1 a2 true))) else (some false))) = some r := h
  clear h
  replace H := Option.bind_eq_some_iff.mp H
  obtain ⟨t308, A40, H⟩ := H
  replace H : (if t308 = true then ((day_To.f k a0).bind fun bt309 => (if bt309.2.2.2 = 0 then (lombardlaw06_PeriodBack.j0 k a0 a1 a2 (decide (bt309.2.2.1 > 28))) else (lombardlaw06_PeriodBack.j0 k a0 a1 a2 true))) else (some false)) = some r := H
  have A4 := Aside0.mk A40
  clear A40
  by_cases c5 : t308 = true
  · subst c5
    have H1 : ((day_To.f k a0).bind fun bt309 => (if bt309.2.2.2 = 0 then (lombardlaw06_PeriodBack.j0 k a0 a1 a2 (decide (bt309.2.2.1 > 28))) else (lombardlaw06_PeriodBack.j0 k a0 a1 a2 true))) = some r := by rw [if_pos rfl] at H; exact H
    clear H
    have H := H1
    clear H1
    replace H := Option.bind_eq_some_iff.mp H
    obtain ⟨⟨t309, t310, t311, t312⟩, A60, H⟩ := H
    replace H : (if t312 = 0 then (lombardlaw06_PeriodBack.j0 k a0 a1 a2 (decide (t311 > 28))) else (lombardlaw06_PeriodBack.j0 k a0 a1 a2 true)) = some r := H
    have A6 := Aside0.mk A60
    clear A60
    have HC7 := Aside0.mk H
    clear H
    go_enter Try.func9, Try.ntmps9
    go_upto_region 4 with (first | ((with_reducible refine gate_callee (f := 25) rfl ?_); refine goesL_ (some 17) rfl rfl Try.func25 (by kernel_rfl) rfl #[] rfl (by (try simp only [List.map_toArray, List.map_cons, List.map_nil]); first | done | rfl | (simp only [List.length_drop, List.length_take]; rfl)) ?_; (with_reducible refine (lombardlaw06_alive.calls k  true _ A4.out).mono ?_); rintro e w8 ⟨rfl, hb⟩; refine ⟨_, rfl, ?_⟩; have n0_ := Aside0.mk (below_step (by repeat (first | (with_reducible first | exact HB.out | apply below_alloc | apply pw_below_drewN | apply below_drew1) | exact HB.out)) hb); clear HB; have HB := n0_; clear n0_; (try clear hb); (try clear hb2); (try clear hk); (try clear hi)) | ((with_reducible refine gate_callee (f := 17) rfl ?_); refine goesL_ (some 21) rfl rfl Try.func17 (by kernel_rfl) rfl #[.int .i64 a0] rfl (by (try simp only [List.map_toArray, List.map_cons, List.map_nil]); first | done | rfl | (simp only [List.length_drop, List.length_take]; rfl)) ?_; (with_reducible refine (day_To.calls k a0 t309 t310 t311 t312 _ A6.out).mono ?_); rintro e w9 ⟨rfl, hb⟩; refine ⟨_, rfl, ?_⟩; have n0_ := Aside0.mk (below_step (by repeat (first | (with_reducible first | exact HB.out | apply below_alloc | apply pw_below_drewN | apply below_drew1) | exact HB.out)) hb); clear HB; have HB := n0_; clear n0_; (try clear hb); (try clear hb2); (try clear hk); (try clear hi)) | ((with_reducible refine gate_dst (N := 7) rfl ?_); refine box_event ?hg (N := 7) ?hd (cs := #[.int .i64 0, .int .i64 0, .int .i64 0]) (t := 23) ?hr ?_; (case hd => rfl); (case hg => rfl); (case hr => first | (go_simp; done) | (go_simp; rfl)); intro gb313 hg w10 hbox hb; have n0_ := Aside0.mk (below_step (by repeat (first | (with_reducible first | exact HB.out | apply below_alloc | apply pw_below_drewN | apply below_drew1) | exact HB.out)) hb); have n1_ := Aside0.mk (hbox); have n2_ := Aside0.mk ((by rw [hg]; exact (below_size (by repeat (first | (with_reducible first | exact HB.out | apply below_alloc | apply pw_below_drewN | apply below_drew1) | exact HB.out))) : w.heap.size ≤ gb313)); have n3_ := Aside0.mk ((by rw [hg]; exact (below_size (by repeat (first | (with_reducible first | exact HB.out | apply below_alloc | apply pw_below_drewN | apply below_drew1) | exact HB.out))) : w.heap.size ≤ gb313)); clear HB; have HB := n0_; have BK313 := n1_; have GW313 := n2_; have GE313 := n3_; clear n0_ n1_ n2_ n3_; clear hb hbox hg; have hcz11_0 : w10.cell? ⟨gb313, 0, none⟩ = some (.int .i64 0) := (blk_cell BK313.out 0).trans rfl; have hcz11_1 : w10.cell? ⟨gb313, 1, none⟩ = some (.int .i64 0) := (blk_cell BK313.out 1).trans rfl; have hcz11_2 : w10.cell? ⟨gb313, 2, none⟩ = some (.int .i64 0) := (blk_cell BK313.out 2).trans rfl; have hfz11_0 := blk_frozen BK313.out 0; have hfz11_1 := blk_frozen BK313.out 1; have hfz11_2 := blk_frozen BK313.out 2))
    (try simp only [Act.put, List.setIfInBounds_toArray, List.set_cons_zero, List.set_cons_succ])
    go_cut [30] (fun v30 wc => ∃ (kq : Nat) (x30_6 : Bool), v30 = .bool x30_6 ∧ Aside0 (lombardlaw06_PeriodBack.j0 kq a0 a1 a2 x30_6 = some r) ∧ Aside0 (kq ≤ k) ∧ Aside0 (wc.heap[gb313]? = some (.cells #[.int .i64 t309, .int .i64 t310, .int .i64 t311] 23 (0, 0))) ∧ Aside0 (Below w.heap.size w wc))
    case first =>
      have H := HC7.out
      clear HC7
      by_cases c12 : t312 = 0
      · rw [if_pos c12] at H
        have c12b0 : (t312 == 0) = true := beq_iff_eq.mpr c12
        have c12b1 : (t312 != 0) = false := bne_eq_false_iff_eq.mpr c12
        clear c12
        (first | rw [c12b0] | (simp only [i64_w, i32_w]; rw [c12b0]) | skip)
        have H' := Aside0.mk H
        clear H
        have hcz13_0 : w10.cell? ⟨gb313, 0, none⟩ = some (.int .i64 0) := (blk_cell BK313.out 0).trans rfl
        have hcz13_1 : w10.cell? ⟨gb313, 1, none⟩ = some (.int .i64 0) := (blk_cell BK313.out 1).trans rfl
        have hcz13_2 : w10.cell? ⟨gb313, 2, none⟩ = some (.int .i64 0) := (blk_cell BK313.out 2).trans rfl
        have hfz13_0 := blk_frozen BK313.out 0
        have hfz13_1 := blk_frozen BK313.out 1
        have hfz13_2 := blk_frozen BK313.out 2
        go_wp2
        go_meet
        case rel => exact ⟨_, (decide (t311 > 28)), (by first | rfl | (simp; done) | (simp [*]; done)), H', ⟨by first | omega | exact Nat.le_refl _⟩, ⟨by (with_reducible repeat (first | refine blk_drewN ?_ _ | refine blk_drew ?_ | refine blk_alloc ?_ _)); refine blk_put (cs := #[.int .i64 t309, .int .i64 t310, .int .i64 0]) ?_ 2 _ rfl; (with_reducible repeat (first | refine blk_drewN ?_ _ | refine blk_drew ?_ | refine blk_alloc ?_ _)); refine blk_put (cs := #[.int .i64 t309, .int .i64 0, .int .i64 0]) ?_ 1 _ rfl; (with_reducible repeat (first | refine blk_drewN ?_ _ | refine blk_drew ?_ | refine blk_alloc ?_ _)); refine blk_put (cs := #[.int .i64 0, .int .i64 0, .int .i64 0]) ?_ 0 _ rfl; (with_reducible repeat (first | refine blk_drewN ?_ _ | refine blk_drew ?_ | refine blk_alloc ?_ _)); exact BK313.out⟩, ⟨by repeat (first | (with_reducible first | exact HB.out | apply below_alloc | apply pw_below_drewN | apply below_drew1 | refine below_set ?_ GE313.out) | exact HB.out)⟩⟩
      · rw [if_neg c12] at H
        have c12b0 : (t312 == 0) = false := beq_eq_false_iff_ne.mpr c12
        have c12b1 : (t312 != 0) = true := bne_iff_ne.mpr c12
        (first | rw [c12b0] | (simp only [i64_w, i32_w]; rw [c12b0]) | skip)
        have H' := Aside0.mk H
        clear H
        go_wp2
        go_meet
        case rel => exact ⟨_, (true), (by first | rfl | (simp; done) | (simp [*]; done)), H', ⟨by first | omega | exact Nat.le_refl _⟩, ⟨by (with_reducible repeat (first | refine blk_drewN ?_ _ | refine blk_drew ?_ | refine blk_alloc ?_ _)); refine blk_put (cs := #[.int .i64 t309, .int .i64 t310, .int .i64 0]) ?_ 2 _ rfl; (with_reducible repeat (first | refine blk_drewN ?_ _ | refine blk_drew ?_ | refine blk_alloc ?_ _)); refine blk_put (cs := #[.int .i64 t309, .int .i64 0, .int .i64 0]) ?_ 1 _ rfl; (with_reducible repeat (first | refine blk_drewN ?_ _ | refine blk_drew ?_ | refine blk_alloc ?_ _)); refine blk_put (cs := #[.int .i64 0, .int .i64 0, .int .i64 0]) ?_ 0 _ rfl; (with_reducible repeat (first | refine blk_drewN ?_ _ | refine blk_drew ?_ | refine blk_alloc ?_ _)); exact BK313.out⟩, ⟨by repeat (first | (with_reducible first | exact HB.out | apply below_alloc | apply pw_below_drewN | apply below_drew1 | refine below_set ?_ GE313.out) | exact HB.out)⟩⟩
    case rest =>
      clear HC7
      try clear c1
      try clear c2
      try clear p2
      try clear c5
      try clear c9
      try clear c12
      try clear c12b0
      try clear c12b1
      try clear hcz11_0
      try clear hcz11_1
      try clear hcz11_2
      try clear hcz13_0
      try clear hcz13_1
      try clear hcz13_2
      try clear hfz11_0
      try clear hfz11_1
      try clear hfz11_2
      try clear hfz13_0
      try clear hfz13_1
      try clear hfz13_2
      obtain ⟨kq, x30_6, rfl, HA, HJ6, BK313, HB⟩ := hcut
      cases kq with
      | zero => exact absurd HA.out (by simp [lombardlaw06_PeriodBack.j0])
      | succ kj6 =>
        have H := HA.out
        clear HA
        simp only [lombardlaw06_PeriodBack.j0] at H
        by_cases c14 : x30_6 = true
        · subst c14
          have H1 : (some true) = some r := by rw [if_pos rfl] at H; exact H
          clear H
          have H := H1
          clear H1
          obtain rfl := Option.some.inj H
          go_wp2
          go_ret
          exact ⟨by first | rfl | (simp [errW_none, errW_some] <;> rfl) | (simp [*, errW_none, errW_some] <;> rfl), by repeat (first | (with_reducible first | exact HB.out | apply below_alloc | apply pw_below_drewN | apply below_drew1 | refine below_set ?_ GE313.out) | exact HB.out)⟩
        · replace c14 := Bool.eq_false_iff.mpr c14
          subst c14
          have H1 : ((period_Months.f kj6 a0 a1 false).bind fun bt314 => (if bt314.2 = 0 then ((period_Months.f kj6 bt314.1 (wrap64 (-a1)) false).bind fun bt316 => (if bt316.2 = 0 then (lombardlaw06_PeriodBack.j1 kj6 a0 a1 a2 bt314.1 (bt316.1 != a0)) else (lombardlaw06_PeriodBack.j1 kj6 a0 a1 a2 bt314.1 true))) else (some (bt314.1 == 0)))) = some r := by rw [if_neg (show ¬ (false = true) by decide)] at H; exact H
          clear H
          have H := H1
          clear H1
          replace H := Option.bind_eq_some_iff.mp H
          obtain ⟨⟨t314, t315⟩, A150, H⟩ := H
          replace H : (if t315 = 0 then ((period_Months.f kj6 t314 (wrap64 (-a1)) false).bind fun bt316 => (if bt316.2 = 0 then (lombardlaw06_PeriodBack.j1 kj6 a0 a1 a2 t314 (bt316.1 != a0)) else (lombardlaw06_PeriodBack.j1 kj6 a0 a1 a2 t314 true))) else (some (t314 == 0))) = some r := H
          have A15 := Aside0.mk A150
          clear A150
          by_cases c16 : t315 = 0
          · rw [if_pos c16] at H
            have c16b0 : (t315 == 0) = true := beq_iff_eq.mpr c16
            have c16b1 : (t315 != 0) = false := bne_eq_false_iff_eq.mpr c16
            clear c16
            replace H := Option.bind_eq_some_iff.mp H
            obtain ⟨⟨t316, t317⟩, A170, H⟩ := H
            replace H : (if t317 = 0 then (lombardlaw06_PeriodBack.j1 kj6 a0 a1 a2 t314 (t316 != a0)) else (lombardlaw06_PeriodBack.j1 kj6 a0 a1 a2 t314 true)) = some r := H
            have A17 := Aside0.mk A170
            clear A170
            have HC18 := Aside0.mk H
            clear H
            go_upto_region 10 with (first | ((with_reducible refine gate_callee (f := 30) rfl ?_); refine goesL_ (some 34) rfl rfl Try.func30 (by kernel_rfl) rfl #[.int .i64 a0, .int .i64 a1, .bool false] rfl (by (try simp only [List.map_toArray, List.map_cons, List.map_nil]); first | done | rfl | (simp only [List.length_drop, List.length_take]; rfl)) ?_; (with_reducible refine (period_Months.calls kj6 a0 a1 false t314 t315 _ A15.out).mono ?_); rintro e w19 ⟨rfl, hb⟩; refine ⟨_, rfl, ?_⟩; have n0_ := Aside0.mk (blk_below (g := gb313) (o := .cells #[.int .i64 t309, .int .i64 t310, .int .i64 t311] 23 (0, 0)) (by (with_reducible repeat (first | refine blk_drewN ?_ _ | refine blk_drew ?_ | refine blk_alloc ?_ _)); exact BK313.out) hb); have n1_ := Aside0.mk (below_step (by repeat (first | (with_reducible first | exact HB.out | apply below_alloc | apply pw_below_drewN | apply below_drew1 | refine below_set ?_ GE313.out) | exact HB.out)) hb); clear BK313; clear HB; have BK313 := n0_; have HB := n1_; clear n0_ n1_; (try clear hb); (try clear hb2); (try clear hk); (try clear hi)) | ((with_reducible refine gate_callee (f := 30) rfl ?_); refine goesL_ (some 45) rfl rfl Try.func30 (by kernel_rfl) rfl #[.int .i64 t314, .int .i64 (wrap64 (-a1)), .bool false] rfl (by (try simp only [List.map_toArray, List.map_cons, List.map_nil]); first | done | rfl | (simp only [List.length_drop, List.length_take]; rfl)) ?_; (with_reducible refine (period_Months.calls kj6 t314 (wrap64 (-a1)) false t316 t317 _ A17.out).mono ?_); rintro e w20 ⟨rfl, hb⟩; refine ⟨_, rfl, ?_⟩; have n0_ := Aside0.mk (blk_below (g := gb313) (o := .cells #[.int .i64 t309, .int .i64 t310, .int .i64 t311] 23 (0, 0)) (by (with_reducible repeat (first | refine blk_drewN ?_ _ | refine blk_drew ?_ | refine blk_alloc ?_ _)); exact BK313.out) hb); have n1_ := Aside0.mk (below_step (by repeat (first | (with_reducible first | exact HB.out | apply below_alloc | apply pw_below_drewN | apply below_drew1 | refine below_set ?_ GE313.out) | exact HB.out)) hb); clear BK313; clear HB; have BK313 := n0_; have HB := n1_; clear n0_ n1_; (try clear hb); (try clear hb2); (try clear hk); (try clear hi)))
            (try simp only [Act.put, List.setIfInBounds_toArray, List.set_cons_zero, List.set_cons_succ])
            go_cut [54] (fun v54 wc => ∃ (kq : Nat) (x54_17 : Bool), v54 = .bool x54_17 ∧ Aside0 (lombardlaw06_PeriodBack.j1 kq a0 a1 a2 t314 x54_17 = some r) ∧ Aside0 (kq ≤ kj6) ∧ Aside0 (wc.heap[gb313]? = some (.cells #[.int .i64 t309, .int .i64 t310, .int .i64 t311] 23 (0, 0))) ∧ Aside0 (Below w.heap.size w wc))
            case first =>
              have H := HC18.out
              clear HC18
              by_cases c21 : t317 = 0
              · rw [if_pos c21] at H
                have c21b0 : (t317 == 0) = true := beq_iff_eq.mpr c21
                have c21b1 : (t317 != 0) = false := bne_eq_false_iff_eq.mpr c21
                clear c21
                (first | rw [c21b0] | (simp only [i64_w, i32_w]; rw [c21b0]) | skip)
                have H' := Aside0.mk H
                clear H
                go_wp2
                go_meet
                case rel => exact ⟨_, ((t316 != a0)), (by first | rfl | (simp; done) | (simp [*]; done)), H', ⟨by have := HJ6.out; first | omega | exact Nat.le_refl _⟩, ⟨by (with_reducible repeat (first | refine blk_drewN ?_ _ | refine blk_drew ?_ | refine blk_alloc ?_ _)); exact BK313.out⟩, ⟨by repeat (first | (with_reducible first | exact HB.out | apply below_alloc | apply pw_below_drewN | apply below_drew1 | refine below_set ?_ GE313.out) | exact HB.out)⟩⟩
              · rw [if_neg c21] at H
                have c21b0 : (t317 == 0) = false := beq_eq_false_iff_ne.mpr c21
                have c21b1 : (t317 != 0) = true := bne_iff_ne.mpr c21
                (first | rw [c21b0] | (simp only [i64_w, i32_w]; rw [c21b0]) | skip)
                have H' := Aside0.mk H
                clear H
                go_wp2
                go_meet
                case rel => exact ⟨_, (true), (by first | rfl | (simp; done) | (simp [*]; done)), H', ⟨by have := HJ6.out; first | omega | exact Nat.le_refl _⟩, ⟨by (with_reducible repeat (first | refine blk_drewN ?_ _ | refine blk_drew ?_ | refine blk_alloc ?_ _)); exact BK313.out⟩, ⟨by repeat (first | (with_reducible first | exact HB.out | apply below_alloc | apply pw_below_drewN | apply below_drew1 | refine below_set ?_ GE313.out) | exact HB.out)⟩⟩
            case rest =>
              clear HC18
              try clear c1
              try clear c2
              try clear p2
              try clear c3
              try clear c5
              try clear p6
              try clear c9
              try clear c12
              try clear c12b0
              try clear c12b1
              try clear c14
              try clear c16
              try clear c16b0
              try clear c16b1
              try clear c17
              try clear c21
              try clear c21b0
              try clear c21b1
              try clear hcz11_0
              try clear hcz11_1
              try clear hcz11_2
              try clear hcz13_0
              try clear hcz13_1
              try clear hcz13_2
              try clear hfz11_0
              try clear hfz11_1
              try clear hfz11_2
              try clear hfz13_0
              try clear hfz13_1
              try clear hfz13_2
              try clear p2
              obtain ⟨kq, x54_17, rfl, HA, HJ17, BK313, HB⟩ := hcut
              cases kq with
              | zero => exact absurd HA.out (by simp [lombardlaw06_PeriodBack.j1])
              | succ kj17 =>
                have H := HA.out
                clear HA
                simp only [lombardlaw06_PeriodBack.j1] at H
                by_cases c22 : x54_17 = true
                · subst c22
                  have H1 : (some false) = some r := by rw [if_pos rfl] at H; exact H
                  clear H
                  have H := H1
                  clear H1
                  obtain rfl := Option.some.inj H
                  go_wp2
                  go_ret
                  exact ⟨by first | rfl | (simp [errW_none, errW_some] <;> rfl) | (simp [*, errW_none, errW_some] <;> rfl), by repeat (first | (with_reducible first | exact HB.out | apply below_alloc | apply pw_below_drewN | apply below_drew1 | refine below_set ?_ GE313.out) | exact HB.out)⟩
                · replace c22 := Bool.eq_false_iff.mpr c22
                  subst c22
                  have H1 : ((period_Months.f kj17 t314 a2 false).bind fun bt318 => (if bt318.2 = 0 then (if a2 < (-12000) then (some true) else (if a2 > 12000 then (some true) else (if (wrap64 (a1 + a2)) < (-12000) then (some true) else (if (wrap64 (a1 + a2)) > 12000 then (some true) else ((period_Months.f kj17 a0 (wrap64 (a1 + a2)) false).bind fun bt320 => (if bt320.2 = 0 then (some (bt320.1 == bt318.1)) else (some false))))))) else (some true))) = some r := by rw [if_neg (show ¬ (false = true) by decide)] at H; exact H
                  clear H
                  have H := H1
                  clear H1
                  replace H := Option.bind_eq_some_iff.mp H
                  obtain ⟨⟨t318, t319⟩, A230, H⟩ := H
                  replace H : (if t319 = 0 then (if a2 < (-12000) then (some true) else (if a2 > 12000 then (some true) else (if (wrap64 (a1 + a2)) < (-12000) then (some true) else (if (wrap64 (a1 + a2)) > 12000 then (some true) else ((period_Months.f kj17 a0 (wrap64 (a1 + a2)) false).bind fun bt320 => (if bt320.2 = 0 then (some (bt320.1 == t318)) else (some false))))))) else (some true)) = some r := H
                  have A23 := Aside0.mk A230
                  clear A230
                  have HC24 := Aside0.mk H
                  clear H
                  go_upto_region 13 with (first | ((with_reducible refine gate_callee (f := 30) rfl ?_); refine goesL_ (some 58) rfl rfl Try.func30 (by kernel_rfl) rfl #[.int .i64 t314, .int .i64 a2, .bool false] rfl (by (try simp only [List.map_toArray, List.map_cons, List.map_nil]); first | done | rfl | (simp only [List.length_drop, List.length_take]; rfl)) ?_; (with_reducible refine (period_Months.calls kj17 t314 a2 false t318 t319 _ A23.out).mono ?_); rintro e w25 ⟨rfl, hb⟩; refine ⟨_, rfl, ?_⟩; have n0_ := Aside0.mk (blk_below (g := gb313) (o := .cells #[.int .i64 t309, .int .i64 t310, .int .i64 t311] 23 (0, 0)) (by (with_reducible repeat (first | refine blk_drewN ?_ _ | refine blk_drew ?_ | refine blk_alloc ?_ _)); exact BK313.out) hb); have n1_ := Aside0.mk (below_step (by repeat (first | (with_reducible first | exact HB.out | apply below_alloc | apply pw_below_drewN | apply below_drew1 | refine below_set ?_ GE313.out) | exact HB.out)) hb); clear BK313; clear HB; have BK313 := n0_; have HB := n1_; clear n0_ n1_; (try clear hb); (try clear hb2); (try clear hk); (try clear hi)))
                  have H := HC24.out
                  clear HC24
                  by_cases c26 : t319 = 0
                  · rw [if_pos c26] at H
                    have c26b0 : (t319 == 0) = true := beq_iff_eq.mpr c26
                    have c26b1 : (t319 != 0) = false := bne_eq_false_iff_eq.mpr c26
                    clear c26
                    by_cases c27 : a2 < (-12000)
                    · rw [if_pos c27] at H
                      have c27b0 : decide (a2 < (-12000)) = true := decide_eq_true c27
                      clear c27
                      obtain rfl := Option.some.inj H
                      go_wp2
                      go_ret
                      exact ⟨by first | rfl | (simp [errW_none, errW_some] <;> rfl) | (simp [*, errW_none, errW_some] <;> rfl), by repeat (first | (with_reducible first | exact HB.out | apply below_alloc | apply pw_below_drewN | apply below_drew1 | refine below_set ?_ GE313.out) | exact HB.out)⟩
                    · rw [if_neg c27] at H
                      have c27b0 : decide (a2 < (-12000)) = false := decide_eq_false c27
                      clear c27
                      by_cases c28 : a2 > 12000
                      · rw [if_pos c28] at H
                        have c28b0 : decide (12000 < a2) = true := decide_eq_true c28
                        clear c28
                        obtain rfl := Option.some.inj H
                        go_wp2
                        go_ret
                        exact ⟨by first | rfl | (simp [errW_none, errW_some] <;> rfl) | (simp [*, errW_none, errW_some] <;> rfl), by repeat (first | (with_reducible first | exact HB.out | apply below_alloc | apply pw_below_drewN | apply below_drew1 | refine below_set ?_ GE313.out) | exact HB.out)⟩
                      · rw [if_neg c28] at H
                        have c28b0 : decide (12000 < a2) = false := decide_eq_false c28
                        clear c28
                        by_cases c29 : (wrap64 (a1 + a2)) < (-12000)
                        · rw [if_pos c29] at H
                          have c29b0 : decide ((wrap64 (a1 + a2)) < (-12000)) = true := decide_eq_true c29
                          clear c29
                          obtain rfl := Option.some.inj H
                          go_wp2
                          go_ret
                          exact ⟨by first | rfl | (simp [errW_none, errW_some] <;> rfl) | (simp [*, errW_none, errW_some] <;> rfl), by repeat (first | (with_reducible first | exact HB.out | apply below_alloc | apply pw_below_drewN | apply below_drew1 | refine below_set ?_ GE313.out) | exact HB.out)⟩
                        · rw [if_neg c29] at H
                          have c29b0 : decide ((wrap64 (a1 + a2)) < (-12000)) = false := decide_eq_false c29
                          clear c29
                          by_cases c30 : (wrap64 (a1 + a2)) > 12000
                          · rw [if_pos c30] at H
                            have c30b0 : decide (12000 < (wrap64 (a1 + a2))) = true := decide_eq_true c30
                            clear c30
                            obtain rfl := Option.some.inj H
                            go_wp2
                            go_ret
                            exact ⟨by first | rfl | (simp [errW_none, errW_some] <;> rfl) | (simp [*, errW_none, errW_some] <;> rfl), by repeat (first | (with_reducible first | exact HB.out | apply below_alloc | apply pw_below_drewN | apply below_drew1 | refine below_set ?_ GE313.out) | exact HB.out)⟩
                          · rw [if_neg c30] at H
                            have c30b0 : decide (12000 < (wrap64 (a1 + a2))) = false := decide_eq_false c30
                            clear c30
                            replace H := Option.bind_eq_some_iff.mp H
                            obtain ⟨⟨t320, t321⟩, A310, H⟩ := H
                            replace H : (if t321 = 0 then (some (t320 == t318)) else (some false)) = some r := H
                            have A31 := Aside0.mk A310
                            clear A310
                            have HC32 := Aside0.mk H
                            clear H
                            go_upto_region 16 with (first | ((with_reducible refine gate_callee (f := 30) rfl ?_); refine goesL_ (some 88) rfl rfl Try.func30 (by kernel_rfl) rfl #[.int .i64 a0, .int .i64 (wrap64 (a1 + a2)), .bool false] rfl (by (try simp only [List.map_toArray, List.map_cons, List.map_nil]); first | done | rfl | (simp only [List.length_drop, List.length_take]; rfl)) ?_; (with_reducible refine (period_Months.calls kj17 a0 (wrap64 (a1 + a2)) false t320 t321 _ A31.out).mono ?_); rintro e w33 ⟨rfl, hb⟩; refine ⟨_, rfl, ?_⟩; have n0_ := Aside0.mk (blk_below (g := gb313) (o := .cells #[.int .i64 t309, .int .i64 t310, .int .i64 t311] 23 (0, 0)) (by (with_reducible repeat (first | refine blk_drewN ?_ _ | refine blk_drew ?_ | refine blk_alloc ?_ _)); exact BK313.out) hb); have n1_ := Aside0.mk (below_step (by repeat (first | (with_reducible first | exact HB.out | apply below_alloc | apply pw_below_drewN | apply below_drew1 | refine below_set ?_ GE313.out) | exact HB.out)) hb); clear BK313; clear HB; have BK313 := n0_; have HB := n1_; clear n0_ n1_; (try clear hb); (try clear hb2); (try clear hk); (try clear hi)))
                            have H := HC32.out
                            clear HC32
                            by_cases c34 : t321 = 0
                            · rw [if_pos c34] at H
                              have c34b0 : (t321 == 0) = true := beq_iff_eq.mpr c34
                              have c34b1 : (t321 != 0) = false := bne_eq_false_iff_eq.mpr c34
                              clear c34
                              obtain rfl := Option.some.inj H
                              go_wp2
                              go_ret
                              exact ⟨by first | rfl | (simp [errW_none, errW_some] <;> rfl) | (simp [*, errW_none, errW_some] <;> rfl), by repeat (first | (with_reducible first | exact HB.out | apply below_alloc | apply pw_below_drewN | apply below_drew1 | refine below_set ?_ GE313.out) | exact HB.out)⟩
                            · rw [if_neg c34] at H
                              have c34b0 : (t321 == 0) = false := beq_eq_false_iff_ne.mpr c34
                              have c34b1 : (t321 != 0) = true := bne_iff_ne.mpr c34
                              obtain rfl := Option.some.inj H
                              go_wp2
                              go_ret
                              exact ⟨by first | rfl | (simp [errW_none, errW_some] <;> rfl) | (simp [*, errW_none, errW_some] <;> rfl), by repeat (first | (with_reducible first | exact HB.out | apply below_alloc | apply pw_below_drewN | apply below_drew1 | refine below_set ?_ GE313.out) | exact HB.out)⟩
                  · rw [if_neg c26] at H
                    have c26b0 : (t319 == 0) = false := beq_eq_false_iff_ne.mpr c26
                    have c26b1 : (t319 != 0) = true := bne_iff_ne.mpr c26
                    obtain rfl := Option.some.inj H
                    go_wp2
                    go_ret
                    exact ⟨by first | rfl | (simp [errW_none, errW_some] <;> rfl) | (simp [*, errW_none, errW_some] <;> rfl), by repeat (first | (with_reducible first | exact HB.out | apply below_alloc | apply pw_below_drewN | apply below_drew1 | refine below_set ?_ GE313.out) | exact HB.out)⟩
          · rw [if_neg c16] at H
            have c16b0 : (t315 == 0) = false := beq_eq_false_iff_ne.mpr c16
            have c16b1 : (t315 != 0) = true := bne_iff_ne.mpr c16
            obtain rfl := Option.some.inj H
            go_wp2_with (first | ((with_reducible refine gate_callee (f := 30) rfl ?_); refine goesL_ (some 34) rfl rfl Try.func30 (by kernel_rfl) rfl #[.int .i64 a0, .int .i64 a1, .bool false] rfl (by (try simp only [List.map_toArray, List.map_cons, List.map_nil]); first | done | rfl | (simp only [List.length_drop, List.length_take]; rfl)) ?_; (with_reducible refine (period_Months.calls kj6 a0 a1 false t314 t315 _ A15.out).mono ?_); rintro e w35 ⟨rfl, hb⟩; refine ⟨_, rfl, ?_⟩; have n0_ := Aside0.mk (blk_below (g := gb313) (o := .cells #[.int .i64 t309, .int .i64 t310, .int .i64 t311] 23 (0, 0)) (by (with_reducible repeat (first | refine blk_drewN ?_ _ | refine blk_drew ?_ | refine blk_alloc ?_ _)); exact BK313.out) hb); have n1_ := Aside0.mk (below_step (by repeat (first | (with_reducible first | exact HB.out | apply below_alloc | apply pw_below_drewN | apply below_drew1 | refine below_set ?_ GE313.out) | exact HB.out)) hb); clear BK313; clear HB; have BK313 := n0_; have HB := n1_; clear n0_ n1_; (try clear hb); (try clear hb2); (try clear hk); (try clear hi)))
            go_ret
            exact ⟨by first | rfl | (simp [errW_none, errW_some] <;> rfl) | (simp [*, errW_none, errW_some] <;> rfl), by repeat (first | (with_reducible first | exact HB.out | apply below_alloc | apply pw_below_drewN | apply below_drew1 | refine below_set ?_ GE313.out) | exact HB.out)⟩
  · replace c5 := Bool.eq_false_iff.mpr c5
    subst c5
    have H1 : (some false) = some r := by rw [if_neg (show ¬ (false = true) by decide)] at H; exact H
    clear H
    have H := H1
    clear H1
    obtain rfl := Option.some.inj H
    go_enter Try.func9, Try.ntmps9
    go_wp2_with (first | ((with_reducible refine gate_callee (f := 25) rfl ?_); refine goesL_ (some 17) rfl rfl Try.func25 (by kernel_rfl) rfl #[] rfl (by (try simp only [List.map_toArray, List.map_cons, List.map_nil]); first | done | rfl | (simp only [List.length_drop, List.length_take]; rfl)) ?_; (with_reducible refine (lombardlaw06_alive.calls k  false _ A4.out).mono ?_); rintro e w36 ⟨rfl, hb⟩; refine ⟨_, rfl, ?_⟩; have n0_ := Aside0.mk (below_step (by repeat (first | (with_reducible first | exact HB.out | apply below_alloc | apply pw_below_drewN | apply below_drew1) | exact HB.out)) hb); clear HB; have HB := n0_; clear n0_; (try clear hb); (try clear hb2); (try clear hk); (try clear hi)))
    go_ret
    exact ⟨by first | rfl | (simp [errW_none, errW_some] <;> rfl) | (simp [*, errW_none, errW_some] <;> rfl), by repeat (first | (with_reducible first | exact HB.out | apply below_alloc | apply pw_below_drewN | apply below_drew1) | exact HB.out)⟩

/-- THE ONE PURE STATEMENT of lombardlaw06_PeriodBack: yours. -/
def lombardlaw06_PeriodBack.Pure : Prop := ∀ (a0 : Int) (a1 : Int) (a2 : Int), (Lit.int .i64 a0).wf = true → (Lit.int .i64 a1).wf = true → (Lit.int .i64 a2).wf = true → ∃ k, lombardlaw06_PeriodBack.f k a0 a1 a2 = some true
theorem lombardlaw06_PeriodBack.walk (P : lombardlaw06_PeriodBack.Pure) (a0 : Int) (a1 : Int) (a2 : Int) (w : World) (w0 : (Lit.int .i64 a0).wf = true) (w1 : (Lit.int .i64 a1).wf = true) (w2 : (Lit.int .i64 a2).wf = true) :
    Calls Try.prog 9 #[.int .i64 a0, .int .i64 a1, .int .i64 a2] w fun e w' => e = .returned (.bool true) ∧ Below w.heap.size w w' := by
  obtain ⟨k, h⟩ := P a0 a1 a2 w0 w1 w2
  refine (lombardlaw06_PeriodBack.calls k a0 a1 a2 true w h).mono ?_
  rintro e w' ⟨rfl, hd⟩
  exact ⟨rfl, hd⟩

end Go.Proofs.Ytdfaedikjfbbjaa.S
