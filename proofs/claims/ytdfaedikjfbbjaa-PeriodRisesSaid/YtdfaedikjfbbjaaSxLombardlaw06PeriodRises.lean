/- Printed by a program of this session out of the translation: what each function called here computes, and that its call comes to just that. Conditions: none beyond those that each theorem names. -/
import Derived.Test.YtdfaedikjfbbjaaSx0
import Derived.Test.YtdfaedikjfbbjaaSxDayTo
import Derived.Test.YtdfaedikjfbbjaaSxLombardlaw06Alive
import Derived.Test.YtdfaedikjfbbjaaSxPeriodDates
import Derived.Test.YtdfaedikjfbbjaaSxLombardref06Ints
namespace Go.Proofs.Ytdfaedikjfbbjaa.S
open Go.RowKit Go.Proofs.YtdfaedikjfbbjaaW.PrintWords Go.Proofs.YtdfaedikjfbbjaaW.PrintLast Go.Proofs.YtdfaedikjfbbjaaW.PrintMore
attribute [local go_sem] max2_int min2_int max_two min_two max_three min_three max_four min_four   -- for this text's walks alone
attribute [local go_sem] Go.Proofs.Ytdfaedikjfbbjaa.XWalk.cell2
set_option linter.unusedVariables false
set_option linter.unusedSimpArgs false

/-! ### lombardlaw06_PeriodRises: function 12 -/
def lombardlaw06_PeriodRises.l0 : Nat → Int → List Int → Int → List Int → Int → Int → Int → Int → Int → Int → Bool → Int → Int → Int → Option (Bool)
  | 0, _, _, _, _, _, _, _, _, _, _, _, _, _, _ => none
  | k + 1, x1, x5, x7, x44, x45, x46, x388000, x388001, x388002, x388003, x388004, x398000, x398001, x398002 => if x46 < x45 then (if 0 ≤ x46 then (if x46 < (x44.length : Int) then ((day_To.f k (rd x44 x46)).bind fun bt399 => (if bt399.2.2.2 = 0 then (if (rd x44 x46) ≤ x7 then (some false) else (if (wrap64 ((wrap64 ((wrap64 ((wrap64 (bt399.1 - x398000)) * 12)) + bt399.2.1)) - x398001)) = (wrap64 ((wrap64 (x46 + 1)) * x388002)) then (if bt399.2.2.1 > (mx x398002 28) then (if x388004 = true then (lombardlaw06_PeriodRises.l0 k x1 x5 (rd x44 x46) x44 x45 (wrap64 (x46 + 1)) x388000 x388001 x388002 x388003 x388004 x398000 x398001 x398002) else (some false)) else (lombardlaw06_PeriodRises.l0 k x1 x5 (rd x44 x46) x44 x45 (wrap64 (x46 + 1)) x388000 x388001 x388002 x388003 x388004 x398000 x398001 x398002)) else (some false))) else (some false))) else (none)) else (none)) else (if (wrap64 ((x5.length : Int) + 1)) = 0 then (none) else ((period_Dates.f k x388000 x388002 (Int.tmod (wrap64 (x1)) (wrap64 ((x5.length : Int) + 1))) x388004).bind fun bt404 => (if bt404.2 = 0 then (if (x5.length : Int) = x388003 then (if 0 ≤ (Int.tmod (wrap64 (x1)) (wrap64 ((x5.length : Int) + 1))) then (if (Int.tmod (wrap64 (x1)) (wrap64 ((x5.length : Int) + 1))) ≤ (x5.length : Int) then ((lombardref06_Ints.f k bt404.1 (x5.take ((Int.tmod (wrap64 (x1)) (wrap64 ((x5.length : Int) + 1))) : Int).toNat)).bind fun t412 => (some t412)) else (none)) else (none)) else (some false)) else (some false))))
def lombardlaw06_PeriodRises.f (k : Nat) (a0_0 : Int) (a0_1 : Int) (a0_2 : Int) (a0_3 : Int) (a0_4 : Bool) (a1 : Int) : Option (Bool) := (lombardlaw06_alive.f k).bind fun t388 => (if t388 = true then ((period_Dates.f k a0_0 a0_2 a0_3 a0_4).bind fun bt389 => (if bt389.2 = 0 then ((day_To.f k a0_0).bind fun bt393 => (lombardlaw06_PeriodRises.l0 k a1 bt389.1 a0_0 bt389.1 (bt389.1.length : Int) 0 a0_0 a0_1 a0_2 a0_3 a0_4 bt393.1 bt393.2.1 bt393.2.2.1)) else (some ((bt389.1.length : Int) == 0)))) else (some false))
theorem lombardlaw06_PeriodRises.mono_l : ∀ k, (∀ y0 y1 y2 y3 y4 y5 y6 y7 y8 y9 y10 y11 y12 y13, LeO (lombardlaw06_PeriodRises.l0 k y0 y1 y2 y3 y4 y5 y6 y7 y8 y9 y10 y11 y12 y13) (lombardlaw06_PeriodRises.l0 (k + 1) y0 y1 y2 y3 y4 y5 y6 y7 y8 y9 y10 y11 y12 y13))
  | 0 => fun _ _ _ _ _ _ _ _ _ _ _ _ _ _ r h => by simp [lombardlaw06_PeriodRises.l0] at h
  | k + 1 => by
    have ih0 := lombardlaw06_PeriodRises.mono_l k
    · intro y0 y1 y2 y3 y4 y5 y6 y7 y8 y9 y10 y11 y12 y13
      unfold lombardlaw06_PeriodRises.l0
      repeat' first
      | (with_reducible exact ih0 _ _ _ _ _ _ _ _ _ _ _ _ _ _)
      | (with_reducible exact day_To.mono _ _)
      | (with_reducible exact lombardlaw06_alive.mono _)
      | (with_reducible exact lombardref06_Ints.mono _ _ _)
      | (with_reducible exact period_Dates.mono _ _ _ _ _)
      | (with_reducible exact LeO.refl _)
      | (with_reducible exact LeO.none _)
      | (with_reducible refine LeO.ite ?_ ?_)
      | (with_reducible refine LeO.bind ?_ (fun _ => ?_))
      | exact ih0 _ _ _ _ _ _ _ _ _ _ _ _ _ _
      | exact day_To.mono _ _
      | exact lombardlaw06_alive.mono _
      | exact lombardref06_Ints.mono _ _ _
      | exact period_Dates.mono _ _ _ _ _
      | exact LeO.none _
      | refine LeO.ite ?_ ?_
      | refine LeO.bind ?_ (fun _ => ?_)
theorem lombardlaw06_PeriodRises.mono : ∀ a0 a1 a2 a3 a4 a5 k, LeO (lombardlaw06_PeriodRises.f k a0 a1 a2 a3 a4 a5) (lombardlaw06_PeriodRises.f (k + 1) a0 a1 a2 a3 a4 a5) := by
  intro a0 a1 a2 a3 a4 a5 k
  have ih0 := lombardlaw06_PeriodRises.mono_l k
  unfold lombardlaw06_PeriodRises.f
  repeat' first
      | (with_reducible exact ih0 _ _ _ _ _ _ _ _ _ _ _ _ _ _)
      | (with_reducible exact day_To.mono _ _)
      | (with_reducible exact lombardlaw06_alive.mono _)
      | (with_reducible exact lombardref06_Ints.mono _ _ _)
      | (with_reducible exact period_Dates.mono _ _ _ _ _)
      | (with_reducible exact LeO.refl _)
      | (with_reducible exact LeO.none _)
      | (with_reducible refine LeO.ite ?_ ?_)
      | (with_reducible refine LeO.bind ?_ (fun _ => ?_))
      | exact ih0 _ _ _ _ _ _ _ _ _ _ _ _ _ _
      | exact day_To.mono _ _
      | exact lombardlaw06_alive.mono _
      | exact lombardref06_Ints.mono _ _ _
      | exact period_Dates.mono _ _ _ _ _
      | exact LeO.none _
      | refine LeO.ite ?_ ?_
      | refine LeO.bind ?_ (fun _ => ?_)
set_option maxHeartbeats 8000000 in
set_option maxRecDepth 100000 in
theorem lombardlaw06_PeriodRises.calls (k : Nat) (a0_0 : Int) (a0_1 : Int) (a0_2 : Int) (a0_3 : Int) (a0_4 : Bool) (a1 : Int) (r : Bool) (w : World) (h : lombardlaw06_PeriodRises.f k a0_0 a0_1 a0_2 a0_3 a0_4 a1 = some r) :
    Calls Try.prog 12 #[.agg #[.int .i64 a0_0, .int .i64 a0_1, .int .i64 a0_2, .int .i64 a0_3, .bool a0_4], .int .u8 a1] w fun e w' => e = .returned (.bool r) ∧ Below w.heap.size w w' := by
  have hu48 := Try.underlying48
  have hu23 := Try.underlying23
  have HB := Aside0.mk (Below.refl w.heap.size w)
  have H : ((lombardlaw06_alive.f k).bind fun t388 => (if t388 = true then ((period_Dates.f k a0_0 a0_2 a0_3 a0_4).bind fun bt389 => (if bt389.2 = 0 then ((day_To.f k a0_0).bind fun bt393 => (lombardlaw06_PeriodRises.l0 k a1 bt389.1 a0_0 bt389.1 (bt389.1.length : Int) 0 a0_0 a0_1 a0_2 a0_3 a0_4 bt393.1 bt393.2.1 bt393.2.2.1)) else (some ((bt389.1.length : Int) == 0)))) else (some false))) = some r := h
  clear h
  replace H := Option.bind_eq_some_iff.mp H
  obtain ⟨t388, A30, H⟩ := H
  replace H : (if t388 = true then ((period_Dates.f k a0_0 a0_2 a0_3 a0_4).bind fun bt389 => (if bt389.2 = 0 then ((day_To.f k a0_0).bind fun bt393 => (lombardlaw06_PeriodRises.l0 k a1 bt389.1 a0_0 bt389.1 (bt389.1.length : Int) 0 a0_0 a0_1 a0_2 a0_3 a0_4 bt393.1 bt393.2.1 bt393.2.2.1)) else (some ((bt389.1.length : Int) == 0)))) else (some false)) = some r := H
  have A3 := Aside0.mk A30
  clear A30
  by_cases c4 : t388 = true
  · subst c4
    have H1 : ((period_Dates.f k a0_0 a0_2 a0_3 a0_4).bind fun bt389 => (if bt389.2 = 0 then ((day_To.f k a0_0).bind fun bt393 => (lombardlaw06_PeriodRises.l0 k a1 bt389.1 a0_0 bt389.1 (bt389.1.length : Int) 0 a0_0 a0_1 a0_2 a0_3 a0_4 bt393.1 bt393.2.1 bt393.2.2.1)) else (some ((bt389.1.length : Int) == 0)))) = some r := by rw [if_pos rfl] at H; exact H
    clear H
    have H := H1
    clear H1
    replace H := Option.bind_eq_some_iff.mp H
    obtain ⟨⟨t389, t390⟩, A50, H⟩ := H
    replace H : (if t390 = 0 then ((day_To.f k a0_0).bind fun bt393 => (lombardlaw06_PeriodRises.l0 k a1 t389 a0_0 t389 (t389.length : Int) 0 a0_0 a0_1 a0_2 a0_3 a0_4 bt393.1 bt393.2.1 bt393.2.2.1)) else (some ((t389.length : Int) == 0))) = some r := H
    have A5 := Aside0.mk A50
    clear A50
    by_cases c6 : t390 = 0
    · rw [if_pos c6] at H
      have c6b0 : (t390 == 0) = true := beq_iff_eq.mpr c6
      have c6b1 : (t390 != 0) = false := bne_eq_false_iff_eq.mpr c6
      clear c6
      replace H := Option.bind_eq_some_iff.mp H
      obtain ⟨⟨t393, t394, t395, t396⟩, A70, H⟩ := H
      replace H : (lombardlaw06_PeriodRises.l0 k a1 t389 a0_0 t389 (t389.length : Int) 0 a0_0 a0_1 a0_2 a0_3 a0_4 t393 t394 t395) = some r := H
      have A7 := Aside0.mk A70
      clear A70
      have H' := Aside0.mk H
      clear H
      go_enter Try.func12, Try.ntmps12
      go_wp2_with (first | ((with_reducible refine gate_dst (N := 2) rfl ?_); (try (refine gate_guard (by rfl) ?_; dsimp only)); refine box_event ?hg (N := 2) ?hd (cs := #[.int .i64 a0_0, .int .i64 a0_1, .int .i64 a0_2, .int .i64 a0_3, .bool a0_4]) (t := 48) ?hr ?_; (case hd => rfl); (case hg => rfl); (case hr => first | (go_simp; done) | (go_simp; rfl)); intro gb387 hg w8 hbox hb; have n0_ := Aside0.mk (below_step (by repeat (first | (with_reducible first | exact HB.out | apply below_alloc | apply pw_below_drewN | apply below_drew1) | exact HB.out)) hb); have n1_ := Aside0.mk (hbox); have n2_ := Aside0.mk ((by rw [hg]; exact (below_size (by repeat (first | (with_reducible first | exact HB.out | apply below_alloc | apply pw_below_drewN | apply below_drew1) | exact HB.out))) : w.heap.size ≤ gb387)); have n3_ := Aside0.mk ((by rw [hg]; exact (below_size (by repeat (first | (with_reducible first | exact HB.out | apply below_alloc | apply pw_below_drewN | apply below_drew1) | exact HB.out))) : w.heap.size ≤ gb387)); clear HB; have HB := n0_; have BK387 := n1_; have GW387 := n2_; have GE387 := n3_; clear n0_ n1_ n2_ n3_; clear hb hbox hg) | ((with_reducible refine gate_callee (f := 25) rfl ?_); refine goesL_ (some 17) rfl rfl Try.func25 (by kernel_rfl) rfl #[] rfl (by (try simp only [List.map_toArray, List.map_cons, List.map_nil]); first | done | rfl | (simp only [List.length_drop, List.length_take]; rfl)) ?_; (with_reducible refine (lombardlaw06_alive.calls k  true _ A3.out).mono ?_); rintro e w9 ⟨rfl, hb⟩; refine ⟨_, rfl, ?_⟩; have n0_ := Aside0.mk (blk_below (g := gb387) (o := .cells #[.int .i64 a0_0, .int .i64 a0_1, .int .i64 a0_2, .int .i64 a0_3, .bool a0_4] 48 (0, 0)) (by (with_reducible repeat (first | refine blk_drewN ?_ _ | refine blk_drew ?_ | refine blk_alloc ?_ _)); exact BK387.out) hb); have n1_ := Aside0.mk (below_step (by repeat (first | (with_reducible first | exact HB.out | apply below_alloc | apply pw_below_drewN | apply below_drew1 | refine below_set ?_ GE387.out) | exact HB.out)) hb); clear BK387; clear HB; have BK387 := n0_; have HB := n1_; clear n0_ n1_; (try clear hb); (try clear hb2); (try clear hk); (try clear hi); have hcz10_0 : w9.cell? ⟨gb387, 0, none⟩ = some (.int .i64 a0_0) := (blk_cell BK387.out 0).trans rfl; have hcz10_1 : w9.cell? ⟨gb387, 1, none⟩ = some (.int .i64 a0_1) := (blk_cell BK387.out 1).trans rfl; have hcz10_2 : w9.cell? ⟨gb387, 2, none⟩ = some (.int .i64 a0_2) := (blk_cell BK387.out 2).trans rfl; have hcz10_3 : w9.cell? ⟨gb387, 3, none⟩ = some (.int .i64 a0_3) := (blk_cell BK387.out 3).trans rfl; have hcz10_4 : w9.cell? ⟨gb387, 4, none⟩ = some (.bool a0_4) := (blk_cell BK387.out 4).trans rfl; have hfz10_0 := blk_frozen BK387.out 0; have hfz10_1 := blk_frozen BK387.out 1; have hfz10_2 := blk_frozen BK387.out 2; have hfz10_3 := blk_frozen BK387.out 3; have hfz10_4 := blk_frozen BK387.out 4) | ((with_reducible refine gate_callee (f := 32) rfl ?_); refine goesL_ (some 28) rfl rfl Try.func32 (by kernel_rfl) rfl #[.int .i64 a0_0, .int .i64 a0_2, .int .i64 a0_3, .bool a0_4] rfl (by (try simp only [List.map_toArray, List.map_cons, List.map_nil]); first | done | rfl | (simp only [List.length_drop, List.length_take]; rfl)) ?_; (with_reducible refine (period_Dates.calls k a0_0 a0_2 a0_3 a0_4 t389 t390 _ A5.out).mono ?_); rintro e w11 ⟨v391, rfl, ho0, hb⟩; refine ⟨_, rfl, ?_⟩; have n0_ := Aside0.mk (Kd.R_lower ho0 (below_size (by repeat (first | (with_reducible first | exact HB.out | apply below_alloc | apply pw_below_drewN | apply below_drew1 | refine below_set ?_ GE387.out) | exact HB.out)))); have n1_ := Aside0.mk (blk_below (g := gb387) (o := .cells #[.int .i64 a0_0, .int .i64 a0_1, .int .i64 a0_2, .int .i64 a0_3, .bool a0_4] 48 (0, 0)) (by (with_reducible repeat (first | refine blk_drewN ?_ _ | refine blk_drew ?_ | refine blk_alloc ?_ _)); exact BK387.out) hb); have n2_ := Aside0.mk (below_step (by repeat (first | (with_reducible first | exact HB.out | apply below_alloc | apply pw_below_drewN | apply below_drew1 | refine below_set ?_ GE387.out) | exact HB.out)) hb); clear BK387; clear HB; have HO392 := n0_; have BK387 := n1_; have HB := n2_; clear n0_ n1_ n2_; (try clear hb); (try clear hb2); (try clear hk); (try clear hi); (try clear ho0); have hcz12_0 : w11.cell? ⟨gb387, 0, none⟩ = some (.int .i64 a0_0) := (blk_cell BK387.out 0).trans rfl; have hcz12_1 : w11.cell? ⟨gb387, 1, none⟩ = some (.int .i64 a0_1) := (blk_cell BK387.out 1).trans rfl; have hcz12_2 : w11.cell? ⟨gb387, 2, none⟩ = some (.int .i64 a0_2) := (blk_cell BK387.out 2).trans rfl; have hcz12_3 : w11.cell? ⟨gb387, 3, none⟩ = some (.int .i64 a0_3) := (blk_cell BK387.out 3).trans rfl; have hcz12_4 : w11.cell? ⟨gb387, 4, none⟩ = some (.bool a0_4) := (blk_cell BK387.out 4).trans rfl; have hfz12_0 := blk_frozen BK387.out 0; have hfz12_1 := blk_frozen BK387.out 1; have hfz12_2 := blk_frozen BK387.out 2; have hfz12_3 := blk_frozen BK387.out 3; have hfz12_4 := blk_frozen BK387.out 4) | ((with_reducible refine gate_callee (f := 17) rfl ?_); refine goesL_ (some 41) rfl rfl Try.func17 (by kernel_rfl) rfl #[.int .i64 a0_0] rfl (by (try simp only [List.map_toArray, List.map_cons, List.map_nil]); first | done | rfl | (simp only [List.length_drop, List.length_take]; rfl)) ?_; (with_reducible refine (day_To.calls k a0_0 t393 t394 t395 t396 _ A7.out).mono ?_); rintro e w13 ⟨rfl, hb⟩; refine ⟨_, rfl, ?_⟩; have n0_ := Aside0.mk (Kd.R_below (by (with_reducible repeat (first | apply Kd.R_alloc | apply Kd.R_drewN | apply Kd.R_drew)); exact HO392.out) hb); have n1_ := Aside0.mk (blk_below (g := gb387) (o := .cells #[.int .i64 a0_0, .int .i64 a0_1, .int .i64 a0_2, .int .i64 a0_3, .bool a0_4] 48 (0, 0)) (by (with_reducible repeat (first | refine blk_drewN ?_ _ | refine blk_drew ?_ | refine blk_alloc ?_ _)); exact BK387.out) hb); have n2_ := Aside0.mk (below_step (by repeat (first | (with_reducible first | exact HB.out | apply below_alloc | apply pw_below_drewN | apply below_drew1 | refine below_set ?_ GE387.out) | exact HB.out)) hb); clear HO392; clear BK387; clear HB; have HO392 := n0_; have BK387 := n1_; have HB := n2_; clear n0_ n1_ n2_; (try clear hb); (try clear hb2); (try clear hk); (try clear hi)) | ((with_reducible refine gate_dst (N := 8) rfl ?_); (try (refine gate_guard (by rfl) ?_; dsimp only)); refine box_event ?hg (N := 8) ?hd (cs := #[.int .i64 0, .int .i64 0, .int .i64 0]) (t := 23) ?hr ?_; (case hd => rfl); (case hg => rfl); (case hr => first | (go_simp; done) | (go_simp; rfl)); intro gb397 hg w14 hbox hb; have n0_ := Aside0.mk (Kd.R_below (by (with_reducible repeat (first | apply Kd.R_alloc | apply Kd.R_drewN | apply Kd.R_drew)); exact HO392.out) hb); have n1_ := Aside0.mk (blk_below (g := gb387) (o := .cells #[.int .i64 a0_0, .int .i64 a0_1, .int .i64 a0_2, .int .i64 a0_3, .bool a0_4] 48 (0, 0)) (by (with_reducible repeat (first | refine blk_drewN ?_ _ | refine blk_drew ?_ | refine blk_alloc ?_ _)); exact BK387.out) hb); have n2_ := Aside0.mk (below_step (by repeat (first | (with_reducible first | exact HB.out | apply below_alloc | apply pw_below_drewN | apply below_drew1 | refine below_set ?_ GE387.out) | exact HB.out)) hb); have n3_ := Aside0.mk (hbox); have n4_ := Aside0.mk ((by rw [hg]; exact (below_size (by repeat (first | (with_reducible first | exact HB.out | apply below_alloc | apply pw_below_drewN | apply below_drew1 | refine below_set ?_ GE387.out) | exact HB.out))) : w.heap.size ≤ gb397)); have n5_ := Aside0.mk ((by rw [hg]; exact (below_size (by repeat (first | (with_reducible first | exact HB.out | apply below_alloc | apply pw_below_drewN | apply below_drew1 | refine below_set ?_ GE387.out) | exact HB.out))) : w.heap.size ≤ gb397)); have n6_ := Aside0.mk ((by rw [hg]; exact Nat.ne_of_lt (blk_lt (g := gb387) (o := .cells #[.int .i64 a0_0, .int .i64 a0_1, .int .i64 a0_2, .int .i64 a0_3, .bool a0_4] 48 (0, 0)) (by (with_reducible repeat (first | refine blk_drewN ?_ _ | refine blk_drew ?_ | refine blk_alloc ?_ _)); exact BK387.out)) : gb387 ≠ gb397)); have n7_ := Aside0.mk ((by rw [hg]; exact Nat.ne_of_gt (blk_lt (g := gb387) (o := .cells #[.int .i64 a0_0, .int .i64 a0_1, .int .i64 a0_2, .int .i64 a0_3, .bool a0_4] 48 (0, 0)) (by (with_reducible repeat (first | refine blk_drewN ?_ _ | refine blk_drew ?_ | refine blk_alloc ?_ _)); exact BK387.out)) : gb397 ≠ gb387)); clear HO392; clear BK387; clear HB; have HO392 := n0_; have BK387 := n1_; have HB := n2_; have BK397 := n3_; have GW397 := n4_; have GE397 := n5_; have NB387_397 := n6_; have NB397_387 := n7_; clear n0_ n1_ n2_ n3_ n4_ n5_ n6_ n7_; clear hb hbox hg; have hnb15 := NB397_387.out; have hnc15 := NB387_397.out; have hcz16_0 : w14.cell? ⟨gb397, 0, none⟩ = some (.int .i64 0) := (blk_cell BK397.out 0).trans rfl; have hcz16_1 : w14.cell? ⟨gb397, 1, none⟩ = some (.int .i64 0) := (blk_cell BK397.out 1).trans rfl; have hcz16_2 : w14.cell? ⟨gb397, 2, none⟩ = some (.int .i64 0) := (blk_cell BK397.out 2).trans rfl; have hfz16_0 := blk_frozen BK397.out 0; have hfz16_1 := blk_frozen BK397.out 1; have hfz16_2 := blk_frozen BK397.out 2; obtain ⟨Ao17, co17, eo17⟩ := Kd.R_slice HO392.out; subst eo17))
      go_loopg [7, 46] k (fun kq v7 v46 w' => ∃ (x7_1 : Int) (x46_1 : Int), v7 = .int .i64 x7_1 ∧ v46 = .int .i64 x46_1 ∧ Aside0 (lombardlaw06_PeriodRises.l0 kq a1 t389 x7_1 t389 (t389.length : Int) x46_1 a0_0 a0_1 a0_2 a0_3 a0_4 t393 t394 t395 = some r) ∧ Aside0 (kq ≤ k) ∧ Aside0 (Kd.R (Kd.int .i64) 3 w' w.heap.size (fun _ => True) (.slice Ao17 t389.length co17) t389) ∧ Aside0 (Kd.R (Kd.int .i64) 3 w' w.heap.size (fun _ => True) (.slice Ao17 t389.length co17) t389) ∧ Aside0 (w'.heap[gb387]? = some (.cells #[.int .i64 a0_0, .int .i64 a0_1, .int .i64 a0_2, .int .i64 a0_3, .bool a0_4] 48 (0, 0))) ∧ Aside0 (w'.heap[gb397]? = some (.cells #[.int .i64 t393, .int .i64 t394, .int .i64 t395] 23 (0, 0))) ∧ Aside0 (Below w.heap.size w w'))
      case atStart => exact ⟨(a0_0), (0), (by first | rfl | (simp; done) | (simp [*]; done)), (by first | rfl | (simp; done) | (simp [*]; done)), H', ⟨Nat.le_refl _⟩, ⟨by (with_reducible repeat (first | apply Kd.R_alloc | apply Kd.R_drewN | apply Kd.R_drew)); exact Kd.R_mono (Kd.R_far (p := ⟨gb397, 2, none⟩) (Kd.R_far (p := ⟨gb397, 1, none⟩) (Kd.R_far (p := ⟨gb397, 0, none⟩) (Kd.R_types HO392.out BK397.out (by decide)) (fun _ hk => hk.2) (.int .i64 t393)) (fun _ hk => hk.2) (.int .i64 t394)) (fun _ hk => hk.2) (.int .i64 t395)) (fun _ hk => trivial)⟩, ⟨by (with_reducible repeat (first | apply Kd.R_alloc | apply Kd.R_drewN | apply Kd.R_drew)); exact Kd.R_mono (Kd.R_far (p := ⟨gb397, 2, none⟩) (Kd.R_far (p := ⟨gb397, 1, none⟩) (Kd.R_far (p := ⟨gb397, 0, none⟩) (Kd.R_types HO392.out BK397.out (by decide)) (fun _ hk => hk.2) (.int .i64 t393)) (fun _ hk => hk.2) (.int .i64 t394)) (fun _ hk => hk.2) (.int .i64 t395)) (fun _ hk => trivial)⟩, ⟨by (with_reducible repeat (first | refine blk_drewN ?_ _ | refine blk_drew ?_ | refine blk_alloc ?_ _)); refine blk_far ?_ NB387_397.out _; (with_reducible repeat (first | refine blk_drewN ?_ _ | refine blk_drew ?_ | refine blk_alloc ?_ _)); refine blk_far ?_ NB387_397.out _; (with_reducible repeat (first | refine blk_drewN ?_ _ | refine blk_drew ?_ | refine blk_alloc ?_ _)); refine blk_far ?_ NB387_397.out _; (with_reducible repeat (first | refine blk_drewN ?_ _ | refine blk_drew ?_ | refine blk_alloc ?_ _)); exact BK387.out⟩, ⟨by (with_reducible repeat (first | refine blk_drewN ?_ _ | refine blk_drew ?_ | refine blk_alloc ?_ _)); refine blk_put (cs := #[.int .i64 t393, .int .i64 t394, .int .i64 0]) ?_ 2 _ rfl; (with_reducible repeat (first | refine blk_drewN ?_ _ | refine blk_drew ?_ | refine blk_alloc ?_ _)); refine blk_put (cs := #[.int .i64 t393, .int .i64 0, .int .i64 0]) ?_ 1 _ rfl; (with_reducible repeat (first | refine blk_drewN ?_ _ | refine blk_drew ?_ | refine blk_alloc ?_ _)); refine blk_put (cs := #[.int .i64 0, .int .i64 0, .int .i64 0]) ?_ 0 _ rfl; (with_reducible repeat (first | refine blk_drewN ?_ _ | refine blk_drew ?_ | refine blk_alloc ?_ _)); exact BK397.out⟩, ⟨by repeat (first | (with_reducible first | exact HB.out | apply below_alloc | apply pw_below_drewN | apply below_drew1 | refine below_set ?_ GE387.out | refine below_set ?_ GE397.out) | exact HB.out)⟩⟩
      case round =>
        clear H'
        try clear c1
        try clear c2
        try clear p2
        try clear c3
        try clear c4
        try clear c6
        try clear c6b0
        try clear c6b1
        try clear c12
        try clear c15
        try clear c17
        try clear hcz10_0
        try clear hcz10_1
        try clear hcz10_2
        try clear hcz10_3
        try clear hcz10_4
        try clear hcz12_0
        try clear hcz12_1
        try clear hcz12_2
        try clear hcz12_3
        try clear hcz12_4
        try clear hcz16_0
        try clear hcz16_1
        try clear hcz16_2
        try clear hfz10_0
        try clear hfz10_1
        try clear hfz10_2
        try clear hfz10_3
        try clear hfz10_4
        try clear hfz12_0
        try clear hfz12_1
        try clear hfz12_2
        try clear hfz12_3
        try clear hfz12_4
        try clear hfz16_0
        try clear hfz16_1
        try clear hfz16_2
        obtain ⟨x7_1, x46_1, rfl, rfl, HA, HK1, HO_5, HO_44, BK387, BK397, HB⟩ := hrel
        cases gk with
        | zero => exact absurd HA.out (by simp [lombardlaw06_PeriodRises.l0])
        | succ k1 =>
          have H := HA.out
          clear HA
          simp only [lombardlaw06_PeriodRises.l0] at H
          by_cases c18 : x46_1 < (t389.length : Int)
          · rw [if_pos c18] at H
            have c18b0 : decide (x46_1 < (t389.length : Int)) = true := decide_eq_true c18
            clear c18
            by_cases c19 : 0 ≤ x46_1
            · rw [if_pos c19] at H
              have c19b0 : decide (0 ≤ x46_1) = true := decide_eq_true c19
              clear c19
              by_cases c20 : x46_1 < (t389.length : Int)
              · rw [if_pos c20] at H
                have c20b0 : decide (x46_1 < (t389.length : Int)) = true := decide_eq_true c20
                clear c20
                replace H := Option.bind_eq_some_iff.mp H
                obtain ⟨⟨t399, t400, t401, t402⟩, A210, H⟩ := H
                replace H : (if t402 = 0 then (if (rd t389 x46_1) ≤ x7_1 then (some false) else (if (wrap64 ((wrap64 ((wrap64 ((wrap64 (t399 - t393)) * 12)) + t400)) - t394)) = (wrap64 ((wrap64 (x46_1 + 1)) * a0_2)) then (if t401 > (mx t395 28) then (if a0_4 = true then (lombardlaw06_PeriodRises.l0 k1 a1 t389 (rd t389 x46_1) t389 (t389.length : Int) (wrap64 (x46_1 + 1)) a0_0 a0_1 a0_2 a0_3 a0_4 t393 t394 t395) else (some false)) else (lombardlaw06_PeriodRises.l0 k1 a1 t389 (rd t389 x46_1) t389 (t389.length : Int) (wrap64 (x46_1 + 1)) a0_0 a0_1 a0_2 a0_3 a0_4 t393 t394 t395)) else (some false))) else (some false)) = some r := H
                have A21 := Aside0.mk A210
                clear A210
                have HC22 := Aside0.mk H
                clear H
                have p398 : 0 ≤ (x46_1 : Int) := of_decide_eq_true (by first | (with_reducible assumption) | assumption)
                have q398 : x46_1 < (t389.length : Int) := of_decide_eq_true (by first | (with_reducible assumption) | assumption)
                obtain ⟨ad398, e398, hx398_0⟩ := Kd.at_int (Kd.R_reads' HO_44.out).2.2 x46_1 p398 q398
                cases e398
                replace p398 := eq_true p398
                replace q398 := eq_true q398
                go_upto_region 12 with (first | ((with_reducible refine gate_callee (f := 17) rfl ?_); refine goesL_ (some 53) rfl rfl Try.func17 (by kernel_rfl) rfl #[.int .i64 (rd t389 x46_1)] rfl (by (try simp only [List.map_toArray, List.map_cons, List.map_nil]); first | done | rfl | (simp only [List.length_drop, List.length_take]; rfl)) ?_; (with_reducible refine (day_To.calls k1 (rd t389 x46_1) t399 t400 t401 t402 _ A21.out).mono ?_); rintro e w23 ⟨rfl, hb⟩; refine ⟨_, rfl, ?_⟩; have n0_ := Aside0.mk (Kd.R_below (by (with_reducible repeat (first | apply Kd.R_alloc | apply Kd.R_drewN | apply Kd.R_drew)); exact HO_5.out) hb); have n1_ := Aside0.mk (Kd.R_below (by (with_reducible repeat (first | apply Kd.R_alloc | apply Kd.R_drewN | apply Kd.R_drew)); exact HO_44.out) hb); have n2_ := Aside0.mk (blk_below (g := gb387) (o := .cells #[.int .i64 a0_0, .int .i64 a0_1, .int .i64 a0_2, .int .i64 a0_3, .bool a0_4] 48 (0, 0)) (by (with_reducible repeat (first | refine blk_drewN ?_ _ | refine blk_drew ?_ | refine blk_alloc ?_ _)); exact BK387.out) hb); have n3_ := Aside0.mk (blk_below (g := gb397) (o := .cells #[.int .i64 t393, .int .i64 t394, .int .i64 t395] 23 (0, 0)) (by (with_reducible repeat (first | refine blk_drewN ?_ _ | refine blk_drew ?_ | refine blk_alloc ?_ _)); exact BK397.out) hb); have n4_ := Aside0.mk (below_step (by repeat (first | (with_reducible first | exact HB.out | apply below_alloc | apply pw_below_drewN | apply below_drew1 | refine below_set ?_ GE387.out | refine below_set ?_ GE397.out) | exact HB.out)) hb); clear HO_5; clear HO_44; clear BK387; clear BK397; clear HB; have HO_5 := n0_; have HO_44 := n1_; have BK387 := n2_; have BK397 := n3_; have HB := n4_; clear n0_ n1_ n2_ n3_ n4_; (try clear hb); (try clear hb2); (try clear hk); (try clear hi)) | ((with_reducible refine gate_dst (N := 12) rfl ?_); (try (refine gate_guard (by rfl) ?_; dsimp only)); refine box_event ?hg (N := 12) ?hd (cs := #[.int .i64 0, .int .i64 0, .int .i64 0]) (t := 23) ?hr ?_; (case hd => rfl); (case hg => rfl); (case hr => first | (go_simp; done) | (go_simp; rfl)); intro gb403 hg w24 hbox hb; have n0_ := Aside0.mk (Kd.R_below (by (with_reducible repeat (first | apply Kd.R_alloc | apply Kd.R_drewN | apply Kd.R_drew)); exact HO_5.out) hb); have n1_ := Aside0.mk (Kd.R_below (by (with_reducible repeat (first | apply Kd.R_alloc | apply Kd.R_drewN | apply Kd.R_drew)); exact HO_44.out) hb); have n2_ := Aside0.mk (blk_below (g := gb387) (o := .cells #[.int .i64 a0_0, .int .i64 a0_1, .int .i64 a0_2, .int .i64 a0_3, .bool a0_4] 48 (0, 0)) (by (with_reducible repeat (first | refine blk_drewN ?_ _ | refine blk_drew ?_ | refine blk_alloc ?_ _)); exact BK387.out) hb); have n3_ := Aside0.mk (blk_below (g := gb397) (o := .cells #[.int .i64 t393, .int .i64 t394, .int .i64 t395] 23 (0, 0)) (by (with_reducible repeat (first | refine blk_drewN ?_ _ | refine blk_drew ?_ | refine blk_alloc ?_ _)); exact BK397.out) hb); have n4_ := Aside0.mk (below_step (by repeat (first | (with_reducible first | exact HB.out | apply below_alloc | apply pw_below_drewN | apply below_drew1 | refine below_set ?_ GE387.out | refine below_set ?_ GE397.out) | exact HB.out)) hb); have n5_ := Aside0.mk (hbox); have n6_ := Aside0.mk ((by rw [hg]; exact (below_size (by repeat (first | (with_reducible first | exact HB.out | apply below_alloc | apply pw_below_drewN | apply below_drew1 | refine below_set ?_ GE387.out | refine below_set ?_ GE397.out) | exact HB.out))) : w.heap.size ≤ gb403)); have n7_ := Aside0.mk ((by rw [hg]; exact (below_size (by repeat (first | (with_reducible first | exact HB.out | apply below_alloc | apply pw_below_drewN | apply below_drew1 | refine below_set ?_ GE387.out | refine below_set ?_ GE397.out) | exact HB.out))) : w.heap.size ≤ gb403)); have n8_ := Aside0.mk ((by rw [hg]; exact Nat.ne_of_lt (blk_lt (g := gb387) (o := .cells #[.int .i64 a0_0, .int .i64 a0_1, .int .i64 a0_2, .int .i64 a0_3, .bool a0_4] 48 (0, 0)) (by (with_reducible repeat (first | refine blk_drewN ?_ _ | refine blk_drew ?_ | refine blk_alloc ?_ _)); exact BK387.out)) : gb387 ≠ gb403)); have n9_ := Aside0.mk ((by rw [hg]; exact Nat.ne_of_gt (blk_lt (g := gb387) (o := .cells #[.int .i64 a0_0, .int .i64 a0_1, .int .i64 a0_2, .int .i64 a0_3, .bool a0_4] 48 (0, 0)) (by (with_reducible repeat (first | refine blk_drewN ?_ _ | refine blk_drew ?_ | refine blk_alloc ?_ _)); exact BK387.out)) : gb403 ≠ gb387)); have n10_ := Aside0.mk ((by rw [hg]; exact Nat.ne_of_lt (blk_lt (g := gb397) (o := .cells #[.int .i64 t393, .int .i64 t394, .int .i64 t395] 23 (0, 0)) (by (with_reducible repeat (first | refine blk_drewN ?_ _ | refine blk_drew ?_ | refine blk_alloc ?_ _)); exact BK397.out)) : gb397 ≠ gb403)); have n11_ := Aside0.mk ((by rw [hg]; exact Nat.ne_of_gt (blk_lt (g := gb397) (o := .cells #[.int .i64 t393, .int .i64 t394, .int .i64 t395] 23 (0, 0)) (by (with_reducible repeat (first | refine blk_drewN ?_ _ | refine blk_drew ?_ | refine blk_alloc ?_ _)); exact BK397.out)) : gb403 ≠ gb397)); clear HO_5; clear HO_44; clear BK387; clear BK397; clear HB; have HO_5 := n0_; have HO_44 := n1_; have BK387 := n2_; have BK397 := n3_; have HB := n4_; have BK403 := n5_; have GW403 := n6_; have GE403 := n7_; have NB387_403 := n8_; have NB403_387 := n9_; have NB397_403 := n10_; have NB403_397 := n11_; clear n0_ n1_ n2_ n3_ n4_ n5_ n6_ n7_ n8_ n9_ n10_ n11_; clear hb hbox hg; have hnb25 := NB403_387.out; have hnc25 := NB387_403.out; have hnb26 := NB403_397.out; have hnc26 := NB397_403.out; have hcz27_0 : w24.cell? ⟨gb403, 0, none⟩ = some (.int .i64 0) := (blk_cell BK403.out 0).trans rfl; have hcz27_1 : w24.cell? ⟨gb403, 1, none⟩ = some (.int .i64 0) := (blk_cell BK403.out 1).trans rfl; have hcz27_2 : w24.cell? ⟨gb403, 2, none⟩ = some (.int .i64 0) := (blk_cell BK403.out 2).trans rfl; have hfz27_0 := blk_frozen BK403.out 0; have hfz27_1 := blk_frozen BK403.out 1; have hfz27_2 := blk_frozen BK403.out 2))
                have H := HC22.out
                clear HC22
                by_cases c28 : t402 = 0
                · rw [if_pos c28] at H
                  have c28b0 : (t402 == 0) = true := beq_iff_eq.mpr c28
                  have c28b1 : (t402 != 0) = false := bne_eq_false_iff_eq.mpr c28
                  clear c28
                  by_cases c29 : (rd t389 x46_1) ≤ x7_1
                  · rw [if_pos c29] at H
                    have c29b0 : decide ((rd t389 x46_1) ≤ x7_1) = true := decide_eq_true c29
                    clear c29
                    obtain rfl := Option.some.inj H
                    go_wp2
                    go_ret
                    exact ⟨by first | rfl | (simp [errW_none, errW_some] <;> rfl) | (simp [*, errW_none, errW_some] <;> rfl), by repeat (first | (with_reducible first | exact HB.out | apply below_alloc | apply pw_below_drewN | apply below_drew1 | refine below_set ?_ GE387.out | refine below_set ?_ GE397.out | refine below_set ?_ GE403.out) | exact HB.out)⟩
                  · rw [if_neg c29] at H
                    have c29b0 : decide ((rd t389 x46_1) ≤ x7_1) = false := decide_eq_false c29
                    clear c29
                    by_cases c30 : (wrap64 ((wrap64 ((wrap64 ((wrap64 (t399 - t393)) * 12)) + t400)) - t394)) = (wrap64 ((wrap64 (x46_1 + 1)) * a0_2))
                    · rw [if_pos c30] at H
                      have c30b0 : ((wrap64 ((wrap64 ((wrap64 ((wrap64 (t399 - t393)) * 12)) + t400)) - t394)) == (wrap64 ((wrap64 (x46_1 + 1)) * a0_2))) = true := beq_iff_eq.mpr c30
                      have c30b1 : ((wrap64 ((wrap64 ((wrap64 ((wrap64 (t399 - t393)) * 12)) + t400)) - t394)) != (wrap64 ((wrap64 (x46_1 + 1)) * a0_2))) = false := bne_eq_false_iff_eq.mpr c30
                      clear c30
                      obtain ⟨ji31, hji31⟩ : ∃ j_ : Int, (mx t395 28) = j_ := ⟨_, rfl⟩
                      replace H : (if t401 > (ji31) then (if a0_4 = true then (lombardlaw06_PeriodRises.l0 k1 a1 t389 (rd t389 x46_1) t389 (t389.length : Int) (wrap64 (x46_1 + 1)) a0_0 a0_1 a0_2 a0_3 a0_4 t393 t394 t395) else (some false)) else (lombardlaw06_PeriodRises.l0 k1 a1 t389 (rd t389 x46_1) t389 (t389.length : Int) (wrap64 (x46_1 + 1)) a0_0 a0_1 a0_2 a0_3 a0_4 t393 t394 t395)) = some r := by first | (rw [hji31] at H; exact H) | (simp only [hji31] at H ⊢; exact H)
                      have hji31_ : (if t395 < 28 then 28 else t395) = ji31 := hji31
                      by_cases c32 : t401 > (ji31)
                      · rw [if_pos c32] at H
                        have c32b0 : decide ((ji31) < t401) = true := decide_eq_true c32
                        clear c32
                        by_cases c33 : a0_4 = true
                        · subst c33
                          have H1 : (lombardlaw06_PeriodRises.l0 k1 a1 t389 (rd t389 x46_1) t389 (t389.length : Int) (wrap64 (x46_1 + 1)) a0_0 a0_1 a0_2 a0_3 true t393 t394 t395) = some r := by rw [if_pos rfl] at H; exact H
                          clear H
                          have H := H1
                          clear H1
                          have H' := Aside0.mk H
                          clear H
                          have hnb34 := NB403_387.out
                          have hnc34 := NB387_403.out
                          have hnb35 := NB403_397.out
                          have hnc35 := NB397_403.out
                          have hcz36_0 : w24.cell? ⟨gb403, 0, none⟩ = some (.int .i64 0) := (blk_cell BK403.out 0).trans rfl
                          have hcz36_1 : w24.cell? ⟨gb403, 1, none⟩ = some (.int .i64 0) := (blk_cell BK403.out 1).trans rfl
                          have hcz36_2 : w24.cell? ⟨gb403, 2, none⟩ = some (.int .i64 0) := (blk_cell BK403.out 2).trans rfl
                          have hfz36_0 := blk_frozen BK403.out 0
                          have hfz36_1 := blk_frozen BK403.out 1
                          have hfz36_2 := blk_frozen BK403.out 2
                          have hnb37 := NB397_387.out
                          have hnc37 := NB387_397.out
                          have hcz38_0 : w24.cell? ⟨gb397, 0, none⟩ = some (.int .i64 t393) := (blk_cell BK397.out 0).trans rfl
                          have hcz38_1 : w24.cell? ⟨gb397, 1, none⟩ = some (.int .i64 t394) := (blk_cell BK397.out 1).trans rfl
                          have hcz38_2 : w24.cell? ⟨gb397, 2, none⟩ = some (.int .i64 t395) := (blk_cell BK397.out 2).trans rfl
                          have hfz38_0 := blk_frozen BK397.out 0
                          have hfz38_1 := blk_frozen BK397.out 1
                          have hfz38_2 := blk_frozen BK397.out 2
                          have hcz39_0 : w24.cell? ⟨gb387, 0, none⟩ = some (.int .i64 a0_0) := (blk_cell BK387.out 0).trans rfl
                          have hcz39_1 : w24.cell? ⟨gb387, 1, none⟩ = some (.int .i64 a0_1) := (blk_cell BK387.out 1).trans rfl
                          have hcz39_2 : w24.cell? ⟨gb387, 2, none⟩ = some (.int .i64 a0_2) := (blk_cell BK387.out 2).trans rfl
                          have hcz39_3 : w24.cell? ⟨gb387, 3, none⟩ = some (.int .i64 a0_3) := (blk_cell BK387.out 3).trans rfl
                          have hcz39_4 : w24.cell? ⟨gb387, 4, none⟩ = some (.bool true) := (blk_cell BK387.out 4).trans rfl
                          have hfz39_0 := blk_frozen BK387.out 0
                          have hfz39_1 := blk_frozen BK387.out 1
                          have hfz39_2 := blk_frozen BK387.out 2
                          have hfz39_3 := blk_frozen BK387.out 3
                          have hfz39_4 := blk_frozen BK387.out 4
                          go_wp2
                          go_roundg k1
                          case measure => have := HK1.out; omega
                          case rel => exact ⟨(rd t389 x46_1), (wrap64 (x46_1 + 1)), (by first | rfl | (simp; done) | (simp [*]; done)), (by first | rfl | (simp; done) | (simp [*]; done)), H', ⟨by have := HK1.out; omega⟩, ⟨by (with_reducible repeat (first | apply Kd.R_alloc | apply Kd.R_drewN | apply Kd.R_drew)); exact Kd.R_mono (Kd.R_far (p := ⟨gb403, 2, none⟩) (Kd.R_far (p := ⟨gb403, 1, none⟩) (Kd.R_far (p := ⟨gb403, 0, none⟩) (Kd.R_types HO_5.out BK403.out (by decide)) (fun _ hk => hk.2) (.int .i64 t399)) (fun _ hk => hk.2) (.int .i64 t400)) (fun _ hk => hk.2) (.int .i64 t401)) (fun _ hk => trivial)⟩, ⟨by (with_reducible repeat (first | apply Kd.R_alloc | apply Kd.R_drewN | apply Kd.R_drew)); exact Kd.R_mono (Kd.R_far (p := ⟨gb403, 2, none⟩) (Kd.R_far (p := ⟨gb403, 1, none⟩) (Kd.R_far (p := ⟨gb403, 0, none⟩) (Kd.R_types HO_44.out BK403.out (by decide)) (fun _ hk => hk.2) (.int .i64 t399)) (fun _ hk => hk.2) (.int .i64 t400)) (fun _ hk => hk.2) (.int .i64 t401)) (fun _ hk => trivial)⟩, ⟨by (with_reducible repeat (first | refine blk_drewN ?_ _ | refine blk_drew ?_ | refine blk_alloc ?_ _)); refine blk_far ?_ NB387_403.out _; (with_reducible repeat (first | refine blk_drewN ?_ _ | refine blk_drew ?_ | refine blk_alloc ?_ _)); refine blk_far ?_ NB387_403.out _; (with_reducible repeat (first | refine blk_drewN ?_ _ | refine blk_drew ?_ | refine blk_alloc ?_ _)); refine blk_far ?_ NB387_403.out _; (with_reducible repeat (first | refine blk_drewN ?_ _ | refine blk_drew ?_ | refine blk_alloc ?_ _)); exact BK387.out⟩, ⟨by (with_reducible repeat (first | refine blk_drewN ?_ _ | refine blk_drew ?_ | refine blk_alloc ?_ _)); refine blk_far ?_ NB397_403.out _; (with_reducible repeat (first | refine blk_drewN ?_ _ | refine blk_drew ?_ | refine blk_alloc ?_ _)); refine blk_far ?_ NB397_403.out _; (with_reducible repeat (first | refine blk_drewN ?_ _ | refine blk_drew ?_ | refine blk_alloc ?_ _)); refine blk_far ?_ NB397_403.out _; (with_reducible repeat (first | refine blk_drewN ?_ _ | refine blk_drew ?_ | refine blk_alloc ?_ _)); exact BK397.out⟩, ⟨by repeat (first | (with_reducible first | exact HB.out | apply below_alloc | apply pw_below_drewN | apply below_drew1 | refine below_set ?_ GE387.out | refine below_set ?_ GE397.out | refine below_set ?_ GE403.out) | exact HB.out)⟩⟩
                        · replace c33 := Bool.eq_false_iff.mpr c33
                          subst c33
                          have H1 : (some false) = some r := by rw [if_neg (show ¬ (false = true) by decide)] at H; exact H
                          clear H
                          have H := H1
                          clear H1
                          obtain rfl := Option.some.inj H
                          have hnb40 := NB403_387.out
                          have hnc40 := NB387_403.out
                          have hnb41 := NB403_397.out
                          have hnc41 := NB397_403.out
                          have hcz42_0 : w24.cell? ⟨gb403, 0, none⟩ = some (.int .i64 0) := (blk_cell BK403.out 0).trans rfl
                          have hcz42_1 : w24.cell? ⟨gb403, 1, none⟩ = some (.int .i64 0) := (blk_cell BK403.out 1).trans rfl
                          have hcz42_2 : w24.cell? ⟨gb403, 2, none⟩ = some (.int .i64 0) := (blk_cell BK403.out 2).trans rfl
                          have hfz42_0 := blk_frozen BK403.out 0
                          have hfz42_1 := blk_frozen BK403.out 1
                          have hfz42_2 := blk_frozen BK403.out 2
                          have hnb43 := NB397_387.out
                          have hnc43 := NB387_397.out
                          have hcz44_0 : w24.cell? ⟨gb397, 0, none⟩ = some (.int .i64 t393) := (blk_cell BK397.out 0).trans rfl
                          have hcz44_1 : w24.cell? ⟨gb397, 1, none⟩ = some (.int .i64 t394) := (blk_cell BK397.out 1).trans rfl
                          have hcz44_2 : w24.cell? ⟨gb397, 2, none⟩ = some (.int .i64 t395) := (blk_cell BK397.out 2).trans rfl
                          have hfz44_0 := blk_frozen BK397.out 0
                          have hfz44_1 := blk_frozen BK397.out 1
                          have hfz44_2 := blk_frozen BK397.out 2
                          have hcz45_0 : w24.cell? ⟨gb387, 0, none⟩ = some (.int .i64 a0_0) := (blk_cell BK387.out 0).trans rfl
                          have hcz45_1 : w24.cell? ⟨gb387, 1, none⟩ = some (.int .i64 a0_1) := (blk_cell BK387.out 1).trans rfl
                          have hcz45_2 : w24.cell? ⟨gb387, 2, none⟩ = some (.int .i64 a0_2) := (blk_cell BK387.out 2).trans rfl
                          have hcz45_3 : w24.cell? ⟨gb387, 3, none⟩ = some (.int .i64 a0_3) := (blk_cell BK387.out 3).trans rfl
                          have hcz45_4 : w24.cell? ⟨gb387, 4, none⟩ = some (.bool false) := (blk_cell BK387.out 4).trans rfl
                          have hfz45_0 := blk_frozen BK387.out 0
                          have hfz45_1 := blk_frozen BK387.out 1
                          have hfz45_2 := blk_frozen BK387.out 2
                          have hfz45_3 := blk_frozen BK387.out 3
                          have hfz45_4 := blk_frozen BK387.out 4
                          go_wp2
                          go_ret
                          exact ⟨by first | rfl | (simp [errW_none, errW_some] <;> rfl) | (simp only [← hji31]; first | rfl | (simp [errW_none, errW_some] <;> rfl)) | (simp [*, errW_none, errW_some] <;> rfl), by repeat (first | (with_reducible first | exact HB.out | apply below_alloc | apply pw_below_drewN | apply below_drew1 | refine below_set ?_ GE387.out | refine below_set ?_ GE397.out | refine below_set ?_ GE403.out) | exact HB.out)⟩
                      · rw [if_neg c32] at H
                        have c32b0 : decide ((ji31) < t401) = false := decide_eq_false c32
                        clear c32
                        have H' := Aside0.mk H
                        clear H
                        have hnb46 := NB403_387.out
                        have hnc46 := NB387_403.out
                        have hnb47 := NB403_397.out
                        have hnc47 := NB397_403.out
                        have hcz48_0 : w24.cell? ⟨gb403, 0, none⟩ = some (.int .i64 0) := (blk_cell BK403.out 0).trans rfl
                        have hcz48_1 : w24.cell? ⟨gb403, 1, none⟩ = some (.int .i64 0) := (blk_cell BK403.out 1).trans rfl
                        have hcz48_2 : w24.cell? ⟨gb403, 2, none⟩ = some (.int .i64 0) := (blk_cell BK403.out 2).trans rfl
                        have hfz48_0 := blk_frozen BK403.out 0
                        have hfz48_1 := blk_frozen BK403.out 1
                        have hfz48_2 := blk_frozen BK403.out 2
                        have hnb49 := NB397_387.out
                        have hnc49 := NB387_397.out
                        have hcz50_0 : w24.cell? ⟨gb397, 0, none⟩ = some (.int .i64 t393) := (blk_cell BK397.out 0).trans rfl
                        have hcz50_1 : w24.cell? ⟨gb397, 1, none⟩ = some (.int .i64 t394) := (blk_cell BK397.out 1).trans rfl
                        have hcz50_2 : w24.cell? ⟨gb397, 2, none⟩ = some (.int .i64 t395) := (blk_cell BK397.out 2).trans rfl
                        have hfz50_0 := blk_frozen BK397.out 0
                        have hfz50_1 := blk_frozen BK397.out 1
                        have hfz50_2 := blk_frozen BK397.out 2
                        have hcz51_0 : w24.cell? ⟨gb387, 0, none⟩ = some (.int .i64 a0_0) := (blk_cell BK387.out 0).trans rfl
                        have hcz51_1 : w24.cell? ⟨gb387, 1, none⟩ = some (.int .i64 a0_1) := (blk_cell BK387.out 1).trans rfl
                        have hcz51_2 : w24.cell? ⟨gb387, 2, none⟩ = some (.int .i64 a0_2) := (blk_cell BK387.out 2).trans rfl
                        have hcz51_3 : w24.cell? ⟨gb387, 3, none⟩ = some (.int .i64 a0_3) := (blk_cell BK387.out 3).trans rfl
                        have hcz51_4 : w24.cell? ⟨gb387, 4, none⟩ = some (.bool a0_4) := (blk_cell BK387.out 4).trans rfl
                        have hfz51_0 := blk_frozen BK387.out 0
                        have hfz51_1 := blk_frozen BK387.out 1
                        have hfz51_2 := blk_frozen BK387.out 2
                        have hfz51_3 := blk_frozen BK387.out 3
                        have hfz51_4 := blk_frozen BK387.out 4
                        go_wp2
                        go_roundg k1
                        case measure => have := HK1.out; omega
                        case rel => exact ⟨(rd t389 x46_1), (wrap64 (x46_1 + 1)), (by first | rfl | (simp; done) | (simp [*]; done)), (by first | rfl | (simp; done) | (simp [*]; done)), H', ⟨by have := HK1.out; omega⟩, ⟨by (with_reducible repeat (first | apply Kd.R_alloc | apply Kd.R_drewN | apply Kd.R_drew)); exact Kd.R_mono (Kd.R_far (p := ⟨gb403, 2, none⟩) (Kd.R_far (p := ⟨gb403, 1, none⟩) (Kd.R_far (p := ⟨gb403, 0, none⟩) (Kd.R_types HO_5.out BK403.out (by decide)) (fun _ hk => hk.2) (.int .i64 t399)) (fun _ hk => hk.2) (.int .i64 t400)) (fun _ hk => hk.2) (.int .i64 t401)) (fun _ hk => trivial)⟩, ⟨by (with_reducible repeat (first | apply Kd.R_alloc | apply Kd.R_drewN | apply Kd.R_drew)); exact Kd.R_mono (Kd.R_far (p := ⟨gb403, 2, none⟩) (Kd.R_far (p := ⟨gb403, 1, none⟩) (Kd.R_far (p := ⟨gb403, 0, none⟩) (Kd.R_types HO_44.out BK403.out (by decide)) (fun _ hk => hk.2) (.int .i64 t399)) (fun _ hk => hk.2) (.int .i64 t400)) (fun _ hk => hk.2) (.int .i64 t401)) (fun _ hk => trivial)⟩, ⟨by (with_reducible repeat (first | refine blk_drewN ?_ _ | refine blk_drew ?_ | refine blk_alloc ?_ _)); refine blk_far ?_ NB387_403.out _; (with_reducible repeat (first | refine blk_drewN ?_ _ | refine blk_drew ?_ | refine blk_alloc ?_ _)); refine blk_far ?_ NB387_403.out _; (with_reducible repeat (first | refine blk_drewN ?_ _ | refine blk_drew ?_ | refine blk_alloc ?_ _)); refine blk_far ?_ NB387_403.out _; (with_reducible repeat (first | refine blk_drewN ?_ _ | refine blk_drew ?_ | refine blk_alloc ?_ _)); exact BK387.out⟩, ⟨by (with_reducible repeat (first | refine blk_drewN ?_ _ | refine blk_drew ?_ | refine blk_alloc ?_ _)); refine blk_far ?_ NB397_403.out _; (with_reducible repeat (first | refine blk_drewN ?_ _ | refine blk_drew ?_ | refine blk_alloc ?_ _)); refine blk_far ?_ NB397_403.out _; (with_reducible repeat (first | refine blk_drewN ?_ _ | refine blk_drew ?_ | refine blk_alloc ?_ _)); refine blk_far ?_ NB397_403.out _; (with_reducible repeat (first | refine blk_drewN ?_ _ | refine blk_drew ?_ | refine blk_alloc ?_ _)); exact BK397.out⟩, ⟨by repeat (first | (with_reducible first | exact HB.out | apply below_alloc | apply pw_below_drewN | apply below_drew1 | refine below_set ?_ GE387.out | refine below_set ?_ GE397.out | refine below_set ?_ GE403.out) | exact HB.out)⟩⟩
                    · rw [if_neg c30] at H
                      have c30b0 : ((wrap64 ((wrap64 ((wrap64 ((wrap64 (t399 - t393)) * 12)) + t400)) - t394)) == (wrap64 ((wrap64 (x46_1 + 1)) * a0_2))) = false := beq_eq_false_iff_ne.mpr c30
                      have c30b1 : ((wrap64 ((wrap64 ((wrap64 ((wrap64 (t399 - t393)) * 12)) + t400)) - t394)) != (wrap64 ((wrap64 (x46_1 + 1)) * a0_2))) = true := bne_iff_ne.mpr c30
                      obtain rfl := Option.some.inj H
                      have hnb52 := NB403_387.out
                      have hnc52 := NB387_403.out
                      have hnb53 := NB403_397.out
                      have hnc53 := NB397_403.out
                      have hcz54_0 : w24.cell? ⟨gb403, 0, none⟩ = some (.int .i64 0) := (blk_cell BK403.out 0).trans rfl
                      have hcz54_1 : w24.cell? ⟨gb403, 1, none⟩ = some (.int .i64 0) := (blk_cell BK403.out 1).trans rfl
                      have hcz54_2 : w24.cell? ⟨gb403, 2, none⟩ = some (.int .i64 0) := (blk_cell BK403.out 2).trans rfl
                      have hfz54_0 := blk_frozen BK403.out 0
                      have hfz54_1 := blk_frozen BK403.out 1
                      have hfz54_2 := blk_frozen BK403.out 2
                      have hnb55 := NB397_387.out
                      have hnc55 := NB387_397.out
                      have hcz56_0 : w24.cell? ⟨gb397, 0, none⟩ = some (.int .i64 t393) := (blk_cell BK397.out 0).trans rfl
                      have hcz56_1 : w24.cell? ⟨gb397, 1, none⟩ = some (.int .i64 t394) := (blk_cell BK397.out 1).trans rfl
                      have hcz56_2 : w24.cell? ⟨gb397, 2, none⟩ = some (.int .i64 t395) := (blk_cell BK397.out 2).trans rfl
                      have hfz56_0 := blk_frozen BK397.out 0
                      have hfz56_1 := blk_frozen BK397.out 1
                      have hfz56_2 := blk_frozen BK397.out 2
                      have hcz57_0 : w24.cell? ⟨gb387, 0, none⟩ = some (.int .i64 a0_0) := (blk_cell BK387.out 0).trans rfl
                      have hcz57_1 : w24.cell? ⟨gb387, 1, none⟩ = some (.int .i64 a0_1) := (blk_cell BK387.out 1).trans rfl
                      have hcz57_2 : w24.cell? ⟨gb387, 2, none⟩ = some (.int .i64 a0_2) := (blk_cell BK387.out 2).trans rfl
                      have hcz57_3 : w24.cell? ⟨gb387, 3, none⟩ = some (.int .i64 a0_3) := (blk_cell BK387.out 3).trans rfl
                      have hcz57_4 : w24.cell? ⟨gb387, 4, none⟩ = some (.bool a0_4) := (blk_cell BK387.out 4).trans rfl
                      have hfz57_0 := blk_frozen BK387.out 0
                      have hfz57_1 := blk_frozen BK387.out 1
                      have hfz57_2 := blk_frozen BK387.out 2
                      have hfz57_3 := blk_frozen BK387.out 3
                      have hfz57_4 := blk_frozen BK387.out 4
                      go_wp2
                      go_ret
                      exact ⟨by first | rfl | (simp [errW_none, errW_some] <;> rfl) | (simp [*, errW_none, errW_some] <;> rfl), by repeat (first | (with_reducible first | exact HB.out | apply below_alloc | apply pw_below_drewN | apply below_drew1 | refine below_set ?_ GE387.out | refine below_set ?_ GE397.out | refine below_set ?_ GE403.out) | exact HB.out)⟩
                · rw [if_neg c28] at H
                  have c28b0 : (t402 == 0) = false := beq_eq_false_iff_ne.mpr c28
                  have c28b1 : (t402 != 0) = true := bne_iff_ne.mpr c28
                  obtain rfl := Option.some.inj H
                  go_wp2
                  go_ret
                  exact ⟨by first | rfl | (simp [errW_none, errW_some] <;> rfl) | (simp [*, errW_none, errW_some] <;> rfl), by repeat (first | (with_reducible first | exact HB.out | apply below_alloc | apply pw_below_drewN | apply below_drew1 | refine below_set ?_ GE387.out | refine below_set ?_ GE397.out | refine below_set ?_ GE403.out) | exact HB.out)⟩
              · rw [if_neg c20] at H
                exact absurd H (by simp)
            · rw [if_neg c19] at H
              exact absurd H (by simp)
          · rw [if_neg c18] at H
            have c18b0 : decide (x46_1 < (t389.length : Int)) = false := decide_eq_false c18
            clear c18
            by_cases c58 : (wrap64 ((t389.length : Int) + 1)) = 0
            · rw [if_pos c58] at H
              exact absurd H (by simp)
            · rw [if_neg c58] at H
              have c58b0 : ((wrap64 ((t389.length : Int) + 1)) == 0) = false := beq_eq_false_iff_ne.mpr c58
              have c58b1 : ((wrap64 ((t389.length : Int) + 1)) != 0) = true := bne_iff_ne.mpr c58
              replace H := Option.bind_eq_some_iff.mp H
              obtain ⟨⟨t404, t405⟩, A590, H⟩ := H
              replace H : (if t405 = 0 then (if (t389.length : Int) = a0_3 then (if 0 ≤ (Int.tmod (wrap64 (a1)) (wrap64 ((t389.length : Int) + 1))) then (if (Int.tmod (wrap64 (a1)) (wrap64 ((t389.length : Int) + 1))) ≤ (t389.length : Int) then ((lombardref06_Ints.f k1 t404 (t389.take ((Int.tmod (wrap64 (a1)) (wrap64 ((t389.length : Int) + 1))) : Int).toNat)).bind fun t412 => (some t412)) else (none)) else (none)) else (some false)) else (some false)) = some r := H
              have A59 := Aside0.mk A590
              clear A590
              have HC60 := Aside0.mk H
              clear H
              have hnb61 := NB387_397.out
              have hnc61 := NB397_387.out
              have hcz62_0 : wr.cell? ⟨gb387, 0, none⟩ = some (.int .i64 a0_0) := (blk_cell BK387.out 0).trans rfl
              have hcz62_1 : wr.cell? ⟨gb387, 1, none⟩ = some (.int .i64 a0_1) := (blk_cell BK387.out 1).trans rfl
              have hcz62_2 : wr.cell? ⟨gb387, 2, none⟩ = some (.int .i64 a0_2) := (blk_cell BK387.out 2).trans rfl
              have hcz62_3 : wr.cell? ⟨gb387, 3, none⟩ = some (.int .i64 a0_3) := (blk_cell BK387.out 3).trans rfl
              have hcz62_4 : wr.cell? ⟨gb387, 4, none⟩ = some (.bool a0_4) := (blk_cell BK387.out 4).trans rfl
              have hfz62_0 := blk_frozen BK387.out 0
              have hfz62_1 := blk_frozen BK387.out 1
              have hfz62_2 := blk_frozen BK387.out 2
              have hfz62_3 := blk_frozen BK387.out 3
              have hfz62_4 := blk_frozen BK387.out 4
              go_upto_region 18 with (first | ((with_reducible refine gate_callee (f := 32) rfl ?_); refine goesL_ (some 112) rfl rfl Try.func32 (by kernel_rfl) rfl #[.int .i64 a0_0, .int .i64 a0_2, .int .i64 (Int.tmod (wrap64 (a1)) (wrap64 ((t389.length : Int) + 1))), .bool a0_4] rfl (by (try simp only [List.map_toArray, List.map_cons, List.map_nil]); first | done | rfl | (simp only [List.length_drop, List.length_take]; rfl)) ?_; (with_reducible refine (period_Dates.calls k1 a0_0 a0_2 (Int.tmod (wrap64 (a1)) (wrap64 ((t389.length : Int) + 1))) a0_4 t404 t405 _ A59.out).mono ?_); rintro e w63 ⟨v406, rfl, ho0, hb⟩; refine ⟨_, rfl, ?_⟩; have n0_ := Aside0.mk (Kd.R_elder' (by (with_reducible repeat (first | apply Kd.R_alloc | apply Kd.R_drewN | apply Kd.R_drew)); exact HO_5.out) (Kd.R_base ho0) hb); have n1_ := Aside0.mk (Kd.R_elder' (by (with_reducible repeat (first | apply Kd.R_alloc | apply Kd.R_drewN | apply Kd.R_drew)); exact HO_44.out) (Kd.R_base ho0) hb); have n2_ := Aside0.mk (Kd.R_lower (Kd.R_new' (Kd.R_new' ho0 (Kd.R_lt (by (with_reducible repeat (first | apply Kd.R_alloc | apply Kd.R_drewN | apply Kd.R_drew)); exact HO_5.out))) (Kd.R_lt (by (with_reducible repeat (first | apply Kd.R_alloc | apply Kd.R_drewN | apply Kd.R_drew)); exact HO_44.out))) (below_size (by repeat (first | (with_reducible first | exact HB.out | apply below_alloc | apply pw_below_drewN | apply below_drew1 | refine below_set ?_ GE387.out | refine below_set ?_ GE397.out) | exact HB.out)))); have n3_ := Aside0.mk (blk_below (g := gb387) (o := .cells #[.int .i64 a0_0, .int .i64 a0_1, .int .i64 a0_2, .int .i64 a0_3, .bool a0_4] 48 (0, 0)) (by (with_reducible repeat (first | refine blk_drewN ?_ _ | refine blk_drew ?_ | refine blk_alloc ?_ _)); exact BK387.out) hb); have n4_ := Aside0.mk (blk_below (g := gb397) (o := .cells #[.int .i64 t393, .int .i64 t394, .int .i64 t395] 23 (0, 0)) (by (with_reducible repeat (first | refine blk_drewN ?_ _ | refine blk_drew ?_ | refine blk_alloc ?_ _)); exact BK397.out) hb); have n5_ := Aside0.mk (below_step (by repeat (first | (with_reducible first | exact HB.out | apply below_alloc | apply pw_below_drewN | apply below_drew1 | refine below_set ?_ GE387.out | refine below_set ?_ GE397.out) | exact HB.out)) hb); clear HO_5; clear HO_44; clear BK387; clear BK397; clear HB; have HO_5 := n0_; have HO_44 := n1_; have HO407 := n2_; have BK387 := n3_; have BK397 := n4_; have HB := n5_; clear n0_ n1_ n2_ n3_ n4_ n5_; (try clear hb); (try clear hb2); (try clear hk); (try clear hi); (try clear ho0)))
              have H := HC60.out
              clear HC60
              by_cases c64 : t405 = 0
              · rw [if_pos c64] at H
                have c64b0 : (t405 == 0) = true := beq_iff_eq.mpr c64
                have c64b1 : (t405 != 0) = false := bne_eq_false_iff_eq.mpr c64
                clear c64
                by_cases c65 : (t389.length : Int) = a0_3
                · rw [if_pos c65] at H
                  have c65b0 : ((t389.length : Int) == a0_3) = true := beq_iff_eq.mpr c65
                  have c65b1 : ((t389.length : Int) != a0_3) = false := bne_eq_false_iff_eq.mpr c65
                  clear c65
                  obtain ⟨ji66, hji66⟩ : ∃ j_ : Int, (Int.tmod (wrap64 (a1)) (wrap64 ((t389.length : Int) + 1))) = j_ := ⟨_, rfl⟩
                  replace H : (if 0 ≤ (ji66) then (if (ji66) ≤ (t389.length : Int) then ((lombardref06_Ints.f k1 t404 (t389.take ((ji66) : Int).toNat)).bind fun t412 => (some t412)) else (none)) else (none)) = some r := by first | (rw [hji66] at H; exact H) | (simp only [hji66] at H ⊢; exact H)
                  by_cases c67 : 0 ≤ (ji66)
                  · rw [if_pos c67] at H
                    have c67b0 := eq_true c67
                    have c67b1 : decide (0 ≤ (ji66)) = true := decide_eq_true c67
                    clear c67
                    by_cases c68 : (ji66) ≤ (t389.length : Int)
                    · rw [if_pos c68] at H
                      have c68b0 := eq_true c68
                      have c68b1 : decide ((ji66) ≤ (t389.length : Int)) = true := decide_eq_true c68
                      clear c68
                      obtain ⟨y408, hy408⟩ : ∃ y_ : List Int, y_ = (t389.take ((ji66) : Int).toNat) := ⟨_, rfl⟩
                      replace H : ((lombardref06_Ints.f k1 t404 y408).bind fun t412 => (some t412)) = some r := by first | (rw [hy408]; with_reducible exact H) | (have H2_ := (Option.bind_some _ _).symm.trans H; rw [hy408]; with_reducible exact H2_) | (have H2_ := (Option.bind_some _ _).symm.trans H; with_reducible exact H2_) | with_reducible exact H | (rw [hy408]; exact H) | exact H
                      have Ny408 := Aside0.mk hy408
                      clear hy408
                      replace H := Option.bind_eq_some_iff.mp H
                      obtain ⟨t412, A690, H⟩ := H
                      replace H : (some t412) = some r := H
                      have A69 := Aside0.mk A690
                      clear A690
                      obtain rfl := Option.some.inj H
                      have hnb70 := NB387_397.out
                      have hnc70 := NB397_387.out
                      have hcz71_0 : w63.cell? ⟨gb387, 0, none⟩ = some (.int .i64 a0_0) := (blk_cell BK387.out 0).trans rfl
                      have hcz71_1 : w63.cell? ⟨gb387, 1, none⟩ = some (.int .i64 a0_1) := (blk_cell BK387.out 1).trans rfl
                      have hcz71_2 : w63.cell? ⟨gb387, 2, none⟩ = some (.int .i64 a0_2) := (blk_cell BK387.out 2).trans rfl
                      have hcz71_3 : w63.cell? ⟨gb387, 3, none⟩ = some (.int .i64 a0_3) := (blk_cell BK387.out 3).trans rfl
                      have hcz71_4 : w63.cell? ⟨gb387, 4, none⟩ = some (.bool a0_4) := (blk_cell BK387.out 4).trans rfl
                      have hfz71_0 := blk_frozen BK387.out 0
                      have hfz71_1 := blk_frozen BK387.out 1
                      have hfz71_2 := blk_frozen BK387.out 2
                      have hfz71_3 := blk_frozen BK387.out 3
                      have hfz71_4 := blk_frozen BK387.out 4
                      have q72 : ((ji66) : Int) ≤ ((t389.length : Int) : Int) := of_decide_eq_true (by first | (with_reducible assumption) | assumption)
                      obtain ⟨i072, hi072, _, hsz72, _⟩ := info_parts info3
                      have hroom72 : t389.length ≤ co17 := (Kd.R_reads' HO_5.out).2.1
                      have hC72 : Kd.C (Kd.int .i64) _ Ao17 t389.length t389 := (Kd.R_reads' HO_5.out).2.2
                      have hcut72 := cut_to (P := Try.prog) 41 3 .i64 Try.underlying41 hi072 Ao17 t389.length co17 (ji66) (of_decide_eq_true (by first | (with_reducible assumption) | assumption)) q72 hroom72
                      have hr72 := Kd.C_take (m := ((ji66) : Int).toNat) hC72 (by omega)
                      have hy72 : y408.length = ((ji66) : Int).toNat := (by rw [Ny408.out, List.length_take]; omega)
                      rw [← Ny408.out] at hr72
                      rw [← hy72] at hcut72
                      have HR411 := Aside0.mk hr72
                      have HC411 := Aside0.mk (show y408.length ≤ co17 from by omega)
                      clear hr72 hC72 hroom72 hi072 hsz72
                      have KY72 := Aside0.mk hy72
                      clear hy72
                      have KL72 := Aside0.mk (show ((ji66) : Int).toNat ≤ t389.length from by omega)
                      replace q72 := eq_true q72
                      obtain ⟨Ao73, co73, eo73⟩ := Kd.R_slice HO407.out
                      subst eo73
                      go_wp2_with (first | (go_at_call 34; (with_reducible refine (lombardref06_Ints.calls k1 _ _ t404 _ _ y408 t412 _ ?side1 ?side2 ?side3 ?side4 A69.out).mono ?_); (case side1 => repeat (first | exact (Kd.R_reads' HO407.out).2.2 | (with_reducible refine Kd.C_alloc ?_ _) | (with_reducible refine Kd.C_drewN ?_ _) | (with_reducible refine Kd.C_drew ?_))); (case side2 => exact (Kd.R_reads' HO407.out).2.1); (case side3 => repeat (first | exact (by repeat (first | (with_reducible exact HR411.out) | (with_reducible refine Kd.C_alloc ?_ _) | (with_reducible refine Kd.C_drewN ?_ _) | (with_reducible refine Kd.C_drew ?_) | exact HR411.out)) | (with_reducible refine Kd.C_alloc ?_ _) | (with_reducible refine Kd.C_drewN ?_ _) | (with_reducible refine Kd.C_drew ?_))); (case side4 => exact HC411.out); rintro e w' ⟨rfl, ⟨nd, rfl⟩⟩))
                      go_ret
                      exact ⟨by first | rfl | (simp [errW_none, errW_some] <;> rfl) | (simp only [← hji66]; first | rfl | (simp [errW_none, errW_some] <;> rfl)) | (simp [*, errW_none, errW_some] <;> rfl), by repeat (first | (with_reducible first | exact HB.out | apply below_alloc | apply pw_below_drewN | apply below_drew1 | refine below_set ?_ GE387.out | refine below_set ?_ GE397.out) | exact HB.out)⟩
                    · rw [if_neg c68] at H
                      exact absurd H (by simp)
                  · rw [if_neg c67] at H
                    exact absurd H (by simp)
                · rw [if_neg c65] at H
                  have c65b0 : ((t389.length : Int) == a0_3) = false := beq_eq_false_iff_ne.mpr c65
                  have c65b1 : ((t389.length : Int) != a0_3) = true := bne_iff_ne.mpr c65
                  obtain rfl := Option.some.inj H
                  have hnb74 := NB387_397.out
                  have hnc74 := NB397_387.out
                  have hcz75_0 : w63.cell? ⟨gb387, 0, none⟩ = some (.int .i64 a0_0) := (blk_cell BK387.out 0).trans rfl
                  have hcz75_1 : w63.cell? ⟨gb387, 1, none⟩ = some (.int .i64 a0_1) := (blk_cell BK387.out 1).trans rfl
                  have hcz75_2 : w63.cell? ⟨gb387, 2, none⟩ = some (.int .i64 a0_2) := (blk_cell BK387.out 2).trans rfl
                  have hcz75_3 : w63.cell? ⟨gb387, 3, none⟩ = some (.int .i64 a0_3) := (blk_cell BK387.out 3).trans rfl
                  have hcz75_4 : w63.cell? ⟨gb387, 4, none⟩ = some (.bool a0_4) := (blk_cell BK387.out 4).trans rfl
                  have hfz75_0 := blk_frozen BK387.out 0
                  have hfz75_1 := blk_frozen BK387.out 1
                  have hfz75_2 := blk_frozen BK387.out 2
                  have hfz75_3 := blk_frozen BK387.out 3
                  have hfz75_4 := blk_frozen BK387.out 4
                  go_wp2
                  go_ret
                  exact ⟨by first | rfl | (simp [errW_none, errW_some] <;> rfl) | (simp [*, errW_none, errW_some] <;> rfl), by repeat (first | (with_reducible first | exact HB.out | apply below_alloc | apply pw_below_drewN | apply below_drew1 | refine below_set ?_ GE387.out | refine below_set ?_ GE397.out) | exact HB.out)⟩
              · rw [if_neg c64] at H
                have c64b0 : (t405 == 0) = false := beq_eq_false_iff_ne.mpr c64
                have c64b1 : (t405 != 0) = true := bne_iff_ne.mpr c64
                obtain rfl := Option.some.inj H
                go_wp2
                go_ret
                exact ⟨by first | rfl | (simp [errW_none, errW_some] <;> rfl) | (simp [*, errW_none, errW_some] <;> rfl), by repeat (first | (with_reducible first | exact HB.out | apply below_alloc | apply pw_below_drewN | apply below_drew1 | refine below_set ?_ GE387.out | refine below_set ?_ GE397.out) | exact HB.out)⟩
    · rw [if_neg c6] at H
      have c6b0 : (t390 == 0) = false := beq_eq_false_iff_ne.mpr c6
      have c6b1 : (t390 != 0) = true := bne_iff_ne.mpr c6
      obtain rfl := Option.some.inj H
      go_enter Try.func12, Try.ntmps12
      go_wp2_with (first | ((with_reducible refine gate_dst (N := 2) rfl ?_); (try (refine gate_guard (by rfl) ?_; dsimp only)); refine box_event ?hg (N := 2) ?hd (cs := #[.int .i64 a0_0, .int .i64 a0_1, .int .i64 a0_2, .int .i64 a0_3, .bool a0_4]) (t := 48) ?hr ?_; (case hd => rfl); (case hg => rfl); (case hr => first | (go_simp; done) | (go_simp; rfl)); intro gb387 hg w76 hbox hb; have n0_ := Aside0.mk (below_step (by repeat (first | (with_reducible first | exact HB.out | apply below_alloc | apply pw_below_drewN | apply below_drew1) | exact HB.out)) hb); have n1_ := Aside0.mk (hbox); have n2_ := Aside0.mk ((by rw [hg]; exact (below_size (by repeat (first | (with_reducible first | exact HB.out | apply below_alloc | apply pw_below_drewN | apply below_drew1) | exact HB.out))) : w.heap.size ≤ gb387)); have n3_ := Aside0.mk ((by rw [hg]; exact (below_size (by repeat (first | (with_reducible first | exact HB.out | apply below_alloc | apply pw_below_drewN | apply below_drew1) | exact HB.out))) : w.heap.size ≤ gb387)); clear HB; have HB := n0_; have BK387 := n1_; have GW387 := n2_; have GE387 := n3_; clear n0_ n1_ n2_ n3_; clear hb hbox hg) | ((with_reducible refine gate_callee (f := 25) rfl ?_); refine goesL_ (some 17) rfl rfl Try.func25 (by kernel_rfl) rfl #[] rfl (by (try simp only [List.map_toArray, List.map_cons, List.map_nil]); first | done | rfl | (simp only [List.length_drop, List.length_take]; rfl)) ?_; (with_reducible refine (lombardlaw06_alive.calls k  true _ A3.out).mono ?_); rintro e w77 ⟨rfl, hb⟩; refine ⟨_, rfl, ?_⟩; have n0_ := Aside0.mk (blk_below (g := gb387) (o := .cells #[.int .i64 a0_0, .int .i64 a0_1, .int .i64 a0_2, .int .i64 a0_3, .bool a0_4] 48 (0, 0)) (by (with_reducible repeat (first | refine blk_drewN ?_ _ | refine blk_drew ?_ | refine blk_alloc ?_ _)); exact BK387.out) hb); have n1_ := Aside0.mk (below_step (by repeat (first | (with_reducible first | exact HB.out | apply below_alloc | apply pw_below_drewN | apply below_drew1 | refine below_set ?_ GE387.out) | exact HB.out)) hb); clear BK387; clear HB; have BK387 := n0_; have HB := n1_; clear n0_ n1_; (try clear hb); (try clear hb2); (try clear hk); (try clear hi); have hcz78_0 : w77.cell? ⟨gb387, 0, none⟩ = some (.int .i64 a0_0) := (blk_cell BK387.out 0).trans rfl; have hcz78_1 : w77.cell? ⟨gb387, 1, none⟩ = some (.int .i64 a0_1) := (blk_cell BK387.out 1).trans rfl; have hcz78_2 : w77.cell? ⟨gb387, 2, none⟩ = some (.int .i64 a0_2) := (blk_cell BK387.out 2).trans rfl; have hcz78_3 : w77.cell? ⟨gb387, 3, none⟩ = some (.int .i64 a0_3) := (blk_cell BK387.out 3).trans rfl; have hcz78_4 : w77.cell? ⟨gb387, 4, none⟩ = some (.bool a0_4) := (blk_cell BK387.out 4).trans rfl; have hfz78_0 := blk_frozen BK387.out 0; have hfz78_1 := blk_frozen BK387.out 1; have hfz78_2 := blk_frozen BK387.out 2; have hfz78_3 := blk_frozen BK387.out 3; have hfz78_4 := blk_frozen BK387.out 4) | ((with_reducible refine gate_callee (f := 32) rfl ?_); refine goesL_ (some 28) rfl rfl Try.func32 (by kernel_rfl) rfl #[.int .i64 a0_0, .int .i64 a0_2, .int .i64 a0_3, .bool a0_4] rfl (by (try simp only [List.map_toArray, List.map_cons, List.map_nil]); first | done | rfl | (simp only [List.length_drop, List.length_take]; rfl)) ?_; (with_reducible refine (period_Dates.calls k a0_0 a0_2 a0_3 a0_4 t389 t390 _ A5.out).mono ?_); rintro e w79 ⟨v391, rfl, ho0, hb⟩; refine ⟨_, rfl, ?_⟩; have n0_ := Aside0.mk (Kd.R_lower ho0 (below_size (by repeat (first | (with_reducible first | exact HB.out | apply below_alloc | apply pw_below_drewN | apply below_drew1 | refine below_set ?_ GE387.out) | exact HB.out)))); have n1_ := Aside0.mk (blk_below (g := gb387) (o := .cells #[.int .i64 a0_0, .int .i64 a0_1, .int .i64 a0_2, .int .i64 a0_3, .bool a0_4] 48 (0, 0)) (by (with_reducible repeat (first | refine blk_drewN ?_ _ | refine blk_drew ?_ | refine blk_alloc ?_ _)); exact BK387.out) hb); have n2_ := Aside0.mk (below_step (by repeat (first | (with_reducible first | exact HB.out | apply below_alloc | apply pw_below_drewN | apply below_drew1 | refine below_set ?_ GE387.out) | exact HB.out)) hb); clear BK387; clear HB; have HO392 := n0_; have BK387 := n1_; have HB := n2_; clear n0_ n1_ n2_; (try clear hb); (try clear hb2); (try clear hk); (try clear hi); (try clear ho0); obtain ⟨Ao80, co80, eo80⟩ := Kd.R_slice HO392.out; subst eo80))
      go_ret
      exact ⟨by first | rfl | (simp [errW_none, errW_some] <;> rfl) | (simp [*, errW_none, errW_some] <;> rfl), by repeat (first | (with_reducible first | exact HB.out | apply below_alloc | apply pw_below_drewN | apply below_drew1 | refine below_set ?_ GE387.out) | exact HB.out)⟩
  · replace c4 := Bool.eq_false_iff.mpr c4
    subst c4
    have H1 : (some false) = some r := by rw [if_neg (show ¬ (false = true) by decide)] at H; exact H
    clear H
    have H := H1
    clear H1
    obtain rfl := Option.some.inj H
    go_enter Try.func12, Try.ntmps12
    go_wp2_with (first | ((with_reducible refine gate_dst (N := 2) rfl ?_); (try (refine gate_guard (by rfl) ?_; dsimp only)); refine box_event ?hg (N := 2) ?hd (cs := #[.int .i64 a0_0, .int .i64 a0_1, .int .i64 a0_2, .int .i64 a0_3, .bool a0_4]) (t := 48) ?hr ?_; (case hd => rfl); (case hg => rfl); (case hr => first | (go_simp; done) | (go_simp; rfl)); intro gb387 hg w81 hbox hb; have n0_ := Aside0.mk (below_step (by repeat (first | (with_reducible first | exact HB.out | apply below_alloc | apply pw_below_drewN | apply below_drew1) | exact HB.out)) hb); have n1_ := Aside0.mk (hbox); have n2_ := Aside0.mk ((by rw [hg]; exact (below_size (by repeat (first | (with_reducible first | exact HB.out | apply below_alloc | apply pw_below_drewN | apply below_drew1) | exact HB.out))) : w.heap.size ≤ gb387)); have n3_ := Aside0.mk ((by rw [hg]; exact (below_size (by repeat (first | (with_reducible first | exact HB.out | apply below_alloc | apply pw_below_drewN | apply below_drew1) | exact HB.out))) : w.heap.size ≤ gb387)); clear HB; have HB := n0_; have BK387 := n1_; have GW387 := n2_; have GE387 := n3_; clear n0_ n1_ n2_ n3_; clear hb hbox hg) | ((with_reducible refine gate_callee (f := 25) rfl ?_); refine goesL_ (some 17) rfl rfl Try.func25 (by kernel_rfl) rfl #[] rfl (by (try simp only [List.map_toArray, List.map_cons, List.map_nil]); first | done | rfl | (simp only [List.length_drop, List.length_take]; rfl)) ?_; (with_reducible refine (lombardlaw06_alive.calls k  false _ A3.out).mono ?_); rintro e w82 ⟨rfl, hb⟩; refine ⟨_, rfl, ?_⟩; have n0_ := Aside0.mk (blk_below (g := gb387) (o := .cells #[.int .i64 a0_0, .int .i64 a0_1, .int .i64 a0_2, .int .i64 a0_3, .bool a0_4] 48 (0, 0)) (by (with_reducible repeat (first | refine blk_drewN ?_ _ | refine blk_drew ?_ | refine blk_alloc ?_ _)); exact BK387.out) hb); have n1_ := Aside0.mk (below_step (by repeat (first | (with_reducible first | exact HB.out | apply below_alloc | apply pw_below_drewN | apply below_drew1 | refine below_set ?_ GE387.out) | exact HB.out)) hb); clear BK387; clear HB; have BK387 := n0_; have HB := n1_; clear n0_ n1_; (try clear hb); (try clear hb2); (try clear hk); (try clear hi)))
    go_ret
    exact ⟨by first | rfl | (simp [errW_none, errW_some] <;> rfl) | (simp [*, errW_none, errW_some] <;> rfl), by repeat (first | (with_reducible first | exact HB.out | apply below_alloc | apply pw_below_drewN | apply below_drew1 | refine below_set ?_ GE387.out) | exact HB.out)⟩

/-- THE PURE STATEMENT of lombardlaw06_PeriodRises. -/
def lombardlaw06_PeriodRises.Pure : Prop := ∀ (a0_0 : Int) (a0_1 : Int) (a0_2 : Int) (a0_3 : Int) (a0_4 : Bool) (a1 : Int), (Lit.int .i64 a0_0).wf = true → (Lit.int .i64 a0_1).wf = true → (Lit.int .i64 a0_2).wf = true → (Lit.int .i64 a0_3).wf = true → (Lit.int .u8 a1).wf = true → ∃ k, lombardlaw06_PeriodRises.f k a0_0 a0_1 a0_2 a0_3 a0_4 a1 = some true
theorem lombardlaw06_PeriodRises.walk (P : lombardlaw06_PeriodRises.Pure) (a0_0 : Int) (a0_1 : Int) (a0_2 : Int) (a0_3 : Int) (a0_4 : Bool) (a1 : Int) (w : World)  (hg0_0 : (Lit.int .i64 a0_0).wf = true) (hg0_1 : (Lit.int .i64 a0_1).wf = true) (hg0_2 : (Lit.int .i64 a0_2).wf = true) (hg0_3 : (Lit.int .i64 a0_3).wf = true) (hg1 : (Lit.int .u8 a1).wf = true) :
    Calls Try.prog 12 #[.agg #[.int .i64 a0_0, .int .i64 a0_1, .int .i64 a0_2, .int .i64 a0_3, .bool a0_4], .int .u8 a1] w fun e w' => e = .returned (.bool true) ∧ Below w.heap.size w w' := by
  obtain ⟨k, h⟩ := P a0_0 a0_1 a0_2 a0_3 a0_4 a1 hg0_0 hg0_1 hg0_2 hg0_3 hg1
  refine (lombardlaw06_PeriodRises.calls k a0_0 a0_1 a0_2 a0_3 a0_4 a1 true w  h).mono ?_
  rintro e w' ⟨rfl, hd⟩
  exact ⟨rfl, hd⟩

end Go.Proofs.Ytdfaedikjfbbjaa.S
