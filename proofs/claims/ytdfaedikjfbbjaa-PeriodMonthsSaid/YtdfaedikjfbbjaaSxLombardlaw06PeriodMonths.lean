/- Printed by a program of this session out of the translation: what each function called here computes, and that its call comes to just that. Conditions: none beyond those that each theorem names. -/
import Derived.Test.YtdfaedikjfbbjaaSx0
import Derived.Test.YtdfaedikjfbbjaaSxPeriodMonths
import Derived.Test.YtdfaedikjfbbjaaSxLombardlaw06Alive
import Derived.Test.YtdfaedikjfbbjaaSxLombardref06Months
import Derived.Test.YtdfaedikjfbbjaaSxPeriodDates
import Derived.Test.YtdfaedikjfbbjaaSxLombardref06Dates
import Derived.Test.YtdfaedikjfbbjaaSxLombardref06Ints
namespace Go.Proofs.Ytdfaedikjfbbjaa.S
open Go.RowKit Go.Proofs.YtdfaedikjfbbjaaW.PrintWords Go.Proofs.YtdfaedikjfbbjaaW.PrintLast Go.Proofs.YtdfaedikjfbbjaaW.PrintMore
attribute [local go_sem] max2_int min2_int max_two min_two max_three min_three max_four min_four   -- for this text's walks alone
attribute [local go_sem] Go.Proofs.Ytdfaedikjfbbjaa.XWalk.cell2
set_option linter.unusedVariables false
set_option linter.unusedSimpArgs false

/-! ### lombardlaw06_PeriodMonths: function 11 -/
def lombardlaw06_PeriodMonths.f (k : Nat) (a0_0 : Int) (a0_1 : Int) (a0_2 : Int) (a0_3 : Int) (a0_4 : Bool) : Option (Bool) := (lombardlaw06_alive.f k).bind fun t373 => (if t373 = true then ((period_Months.f k a0_0 a0_1 a0_4).bind fun bt374 => ((lombardref06_Months.f k a0_0 a0_1 a0_4).bind fun bt376 => ((period_Dates.f k a0_0 a0_2 a0_3 a0_4).bind fun bt378 => ((lombardref06_Dates.f k a0_0 a0_2 a0_3 a0_4).bind fun bt382 => (if bt374.1 = bt376.1 then (if bt374.2 = bt376.2 then ((lombardref06_Ints.f k bt378.1 bt382.1).bind fun t386 => (if t386 = true then (some (bt378.2 == bt382.2)) else (some false))) else (some false)) else (some false)))))) else (some false))
theorem lombardlaw06_PeriodMonths.mono : ∀ a0 a1 a2 a3 a4 k, LeO (lombardlaw06_PeriodMonths.f k a0 a1 a2 a3 a4) (lombardlaw06_PeriodMonths.f (k + 1) a0 a1 a2 a3 a4) := by
  intro a0 a1 a2 a3 a4 k
  unfold lombardlaw06_PeriodMonths.f
  repeat' first
      | (with_reducible exact lombardlaw06_alive.mono _)
      | (with_reducible exact lombardref06_Dates.mono _ _ _ _ _)
      | (with_reducible exact lombardref06_Ints.mono _ _ _)
      | (with_reducible exact lombardref06_Months.mono _ _ _ _)
      | (with_reducible exact period_Dates.mono _ _ _ _ _)
      | (with_reducible exact period_Months.mono _ _ _ _)
      | (with_reducible exact LeO.refl _)
      | (with_reducible exact LeO.none _)
      | (with_reducible refine LeO.ite ?_ ?_)
      | (with_reducible refine LeO.bind ?_ (fun _ => ?_))
      | exact lombardlaw06_alive.mono _
      | exact lombardref06_Dates.mono _ _ _ _ _
      | exact lombardref06_Ints.mono _ _ _
      | exact lombardref06_Months.mono _ _ _ _
      | exact period_Dates.mono _ _ _ _ _
      | exact period_Months.mono _ _ _ _
      | exact LeO.none _
      | refine LeO.ite ?_ ?_
      | refine LeO.bind ?_ (fun _ => ?_)
set_option maxHeartbeats 8000000 in
set_option maxRecDepth 100000 in
theorem lombardlaw06_PeriodMonths.calls (k : Nat) (a0_0 : Int) (a0_1 : Int) (a0_2 : Int) (a0_3 : Int) (a0_4 : Bool) (r : Bool) (w : World) (h : lombardlaw06_PeriodMonths.f k a0_0 a0_1 a0_2 a0_3 a0_4 = some r) :
    Calls Try.prog 11 #[.agg #[.int .i64 a0_0, .int .i64 a0_1, .int .i64 a0_2, .int .i64 a0_3, .bool a0_4]] w fun e w' => e = .returned (.bool r) ∧ Below w.heap.size w w' := by
  have hu48 := Try.underlying48
  have HB := Aside0.mk (Below.refl w.heap.size w)
  have H : ((lombardlaw06_alive.f k).bind fun t373 => (if t373 = true then ((period_Months.f k a0_0 a0_1 a0_4).bind fun bt374 => ((lombardref06_Months.f k a0_0 a0_1 a0_4).bind fun bt376 => ((period_Dates.f k a0_0 a0_2 a0_3 a0_4).bind fun bt378 => ((lombardref06_Dates.f k a0_0 a0_2 a0_3 a0_4).bind fun bt382 => (if bt374.1 = bt376.1 then (if bt374.2 = bt376.2 then ((lombardref06_Ints.f k bt378.1 bt382.1).bind fun t386 => (if t386 = true then (some (bt378.2 == bt382.2)) else (some false))) else (some false)) else (some false)))))) else (some false))) = some r := h
  clear h
  replace H := Option.bind_eq_some_iff.mp H
  obtain ⟨t373, A20, H⟩ := H
  replace H : (if t373 = true then ((period_Months.f k a0_0 a0_1 a0_4).bind fun bt374 => ((lombardref06_Months.f k a0_0 a0_1 a0_4).bind fun bt376 => ((period_Dates.f k a0_0 a0_2 a0_3 a0_4).bind fun bt378 => ((lombardref06_Dates.f k a0_0 a0_2 a0_3 a0_4).bind fun bt382 => (if bt374.1 = bt376.1 then (if bt374.2 = bt376.2 then ((lombardref06_Ints.f k bt378.1 bt382.1).bind fun t386 => (if t386 = true then (some (bt378.2 == bt382.2)) else (some false))) else (some false)) else (some false)))))) else (some false)) = some r := H
  have A2 := Aside0.mk A20
  clear A20
  by_cases c3 : t373 = true
  · subst c3
    have H1 : ((period_Months.f k a0_0 a0_1 a0_4).bind fun bt374 => ((lombardref06_Months.f k a0_0 a0_1 a0_4).bind fun bt376 => ((period_Dates.f k a0_0 a0_2 a0_3 a0_4).bind fun bt378 => ((lombardref06_Dates.f k a0_0 a0_2 a0_3 a0_4).bind fun bt382 => (if bt374.1 = bt376.1 then (if bt374.2 = bt376.2 then ((lombardref06_Ints.f k bt378.1 bt382.1).bind fun t386 => (if t386 = true then (some (bt378.2 == bt382.2)) else (some false))) else (some false)) else (some false)))))) = some r := by rw [if_pos rfl] at H; exact H
    clear H
    have H := H1
    clear H1
    replace H := Option.bind_eq_some_iff.mp H
    obtain ⟨⟨t374, t375⟩, A40, H⟩ := H
    replace H : ((lombardref06_Months.f k a0_0 a0_1 a0_4).bind fun bt376 => ((period_Dates.f k a0_0 a0_2 a0_3 a0_4).bind fun bt378 => ((lombardref06_Dates.f k a0_0 a0_2 a0_3 a0_4).bind fun bt382 => (if t374 = bt376.1 then (if t375 = bt376.2 then ((lombardref06_Ints.f k bt378.1 bt382.1).bind fun t386 => (if t386 = true then (some (bt378.2 == bt382.2)) else (some false))) else (some false)) else (some false))))) = some r := H
    have A4 := Aside0.mk A40
    clear A40
    replace H := Option.bind_eq_some_iff.mp H
    obtain ⟨⟨t376, t377⟩, A50, H⟩ := H
    replace H : ((period_Dates.f k a0_0 a0_2 a0_3 a0_4).bind fun bt378 => ((lombardref06_Dates.f k a0_0 a0_2 a0_3 a0_4).bind fun bt382 => (if t374 = t376 then (if t375 = t377 then ((lombardref06_Ints.f k bt378.1 bt382.1).bind fun t386 => (if t386 = true then (some (bt378.2 == bt382.2)) else (some false))) else (some false)) else (some false)))) = some r := H
    have A5 := Aside0.mk A50
    clear A50
    replace H := Option.bind_eq_some_iff.mp H
    obtain ⟨⟨t378, t379⟩, A60, H⟩ := H
    replace H : ((lombardref06_Dates.f k a0_0 a0_2 a0_3 a0_4).bind fun bt382 => (if t374 = t376 then (if t375 = t377 then ((lombardref06_Ints.f k t378 bt382.1).bind fun t386 => (if t386 = true then (some (t379 == bt382.2)) else (some false))) else (some false)) else (some false))) = some r := H
    have A6 := Aside0.mk A60
    clear A60
    replace H := Option.bind_eq_some_iff.mp H
    obtain ⟨⟨t382, t383⟩, A70, H⟩ := H
    replace H : (if t374 = t376 then (if t375 = t377 then ((lombardref06_Ints.f k t378 t382).bind fun t386 => (if t386 = true then (some (t379 == t383)) else (some false))) else (some false)) else (some false)) = some r := H
    have A7 := Aside0.mk A70
    clear A70
    have HC8 := Aside0.mk H
    clear H
    go_enter Try.func11, Try.ntmps11
    go_upto_region 7 with (first | ((with_reducible refine gate_dst (N := 1) rfl ?_); refine box_event ?hg (N := 1) ?hd (cs := #[.int .i64 a0_0, .int .i64 a0_1, .int .i64 a0_2, .int .i64 a0_3, .bool a0_4]) (t := 48) ?hr ?_; (case hd => rfl); (case hg => rfl); (case hr => first | (go_simp; done) | (go_simp; rfl)); intro gb372 hg w9 hbox hb; have n0_ := Aside0.mk (below_step (by repeat (first | (with_reducible first | exact HB.out | apply below_alloc | apply pw_below_drewN | apply below_drew1) | exact HB.out)) hb); have n1_ := Aside0.mk (hbox); have n2_ := Aside0.mk ((by rw [hg]; exact (below_size (by repeat (first | (with_reducible first | exact HB.out | apply below_alloc | apply pw_below_drewN | apply below_drew1) | exact HB.out))) : w.heap.size ≤ gb372)); have n3_ := Aside0.mk ((by rw [hg]; exact (below_size (by repeat (first | (with_reducible first | exact HB.out | apply below_alloc | apply pw_below_drewN | apply below_drew1) | exact HB.out))) : w.heap.size ≤ gb372)); clear HB; have HB := n0_; have BK372 := n1_; have GW372 := n2_; have GE372 := n3_; clear n0_ n1_ n2_ n3_; clear hb hbox hg) | ((with_reducible refine gate_callee (f := 25) rfl ?_); refine goesL_ (some 11) rfl rfl Try.func25 (by kernel_rfl) rfl #[] rfl (by (try simp only [List.map_toArray, List.map_cons, List.map_nil]); first | done | rfl | (simp only [List.length_drop, List.length_take]; rfl)) ?_; (with_reducible refine (lombardlaw06_alive.calls k  true _ A2.out).mono ?_); rintro e w10 ⟨rfl, hb⟩; refine ⟨_, rfl, ?_⟩; have n0_ := Aside0.mk (blk_below (g := gb372) (o := .cells #[.int .i64 a0_0, .int .i64 a0_1, .int .i64 a0_2, .int .i64 a0_3, .bool a0_4] 48 (0, 0)) (by (with_reducible repeat (first | refine blk_drewN ?_ _ | refine blk_drew ?_ | refine blk_alloc ?_ _)); exact BK372.out) hb); have n1_ := Aside0.mk (below_step (by repeat (first | (with_reducible first | exact HB.out | apply below_alloc | apply pw_below_drewN | apply below_drew1 | refine below_set ?_ GE372.out) | exact HB.out)) hb); clear BK372; clear HB; have BK372 := n0_; have HB := n1_; clear n0_ n1_; (try clear hb); (try clear hb2); (try clear hk); (try clear hi); have hcz11_0 : w10.cell? ⟨gb372, 0, none⟩ = some (.int .i64 a0_0) := (blk_cell BK372.out 0).trans rfl; have hcz11_1 : w10.cell? ⟨gb372, 1, none⟩ = some (.int .i64 a0_1) := (blk_cell BK372.out 1).trans rfl; have hcz11_2 : w10.cell? ⟨gb372, 2, none⟩ = some (.int .i64 a0_2) := (blk_cell BK372.out 2).trans rfl; have hcz11_3 : w10.cell? ⟨gb372, 3, none⟩ = some (.int .i64 a0_3) := (blk_cell BK372.out 3).trans rfl; have hcz11_4 : w10.cell? ⟨gb372, 4, none⟩ = some (.bool a0_4) := (blk_cell BK372.out 4).trans rfl; have hfz11_0 := blk_frozen BK372.out 0; have hfz11_1 := blk_frozen BK372.out 1; have hfz11_2 := blk_frozen BK372.out 2; have hfz11_3 := blk_frozen BK372.out 3; have hfz11_4 := blk_frozen BK372.out 4) | ((with_reducible refine gate_callee (f := 30) rfl ?_); refine goesL_ (some 20) rfl rfl Try.func30 (by kernel_rfl) rfl #[.int .i64 a0_0, .int .i64 a0_1, .bool a0_4] rfl (by (try simp only [List.map_toArray, List.map_cons, List.map_nil]); first | done | rfl | (simp only [List.length_drop, List.length_take]; rfl)) ?_; (with_reducible refine (period_Months.calls k a0_0 a0_1 a0_4 t374 t375 _ A4.out).mono ?_); rintro e w12 ⟨rfl, hb⟩; refine ⟨_, rfl, ?_⟩; have n0_ := Aside0.mk (blk_below (g := gb372) (o := .cells #[.int .i64 a0_0, .int .i64 a0_1, .int .i64 a0_2, .int .i64 a0_3, .bool a0_4] 48 (0, 0)) (by (with_reducible repeat (first | refine blk_drewN ?_ _ | refine blk_drew ?_ | refine blk_alloc ?_ _)); exact BK372.out) hb); have n1_ := Aside0.mk (below_step (by repeat (first | (with_reducible first | exact HB.out | apply below_alloc | apply pw_below_drewN | apply below_drew1 | refine below_set ?_ GE372.out) | exact HB.out)) hb); clear BK372; clear HB; have BK372 := n0_; have HB := n1_; clear n0_ n1_; (try clear hb); (try clear hb2); (try clear hk); (try clear hi); have hcz13_0 : w12.cell? ⟨gb372, 0, none⟩ = some (.int .i64 a0_0) := (blk_cell BK372.out 0).trans rfl; have hcz13_1 : w12.cell? ⟨gb372, 1, none⟩ = some (.int .i64 a0_1) := (blk_cell BK372.out 1).trans rfl; have hcz13_2 : w12.cell? ⟨gb372, 2, none⟩ = some (.int .i64 a0_2) := (blk_cell BK372.out 2).trans rfl; have hcz13_3 : w12.cell? ⟨gb372, 3, none⟩ = some (.int .i64 a0_3) := (blk_cell BK372.out 3).trans rfl; have hcz13_4 : w12.cell? ⟨gb372, 4, none⟩ = some (.bool a0_4) := (blk_cell BK372.out 4).trans rfl; have hfz13_0 := blk_frozen BK372.out 0; have hfz13_1 := blk_frozen BK372.out 1; have hfz13_2 := blk_frozen BK372.out 2; have hfz13_3 := blk_frozen BK372.out 3; have hfz13_4 := blk_frozen BK372.out 4) | ((with_reducible refine gate_callee (f := 31) rfl ?_); refine goesL_ (some 30) rfl rfl Try.func31 (by kernel_rfl) rfl #[.int .i64 a0_0, .int .i64 a0_1, .bool a0_4] rfl (by (try simp only [List.map_toArray, List.map_cons, List.map_nil]); first | done | rfl | (simp only [List.length_drop, List.length_take]; rfl)) ?_; (with_reducible refine (lombardref06_Months.calls k a0_0 a0_1 a0_4 t376 t377 _ A5.out).mono ?_); rintro e w14 ⟨rfl, hb⟩; refine ⟨_, rfl, ?_⟩; have n0_ := Aside0.mk (blk_below (g := gb372) (o := .cells #[.int .i64 a0_0, .int .i64 a0_1, .int .i64 a0_2, .int .i64 a0_3, .bool a0_4] 48 (0, 0)) (by (with_reducible repeat (first | refine blk_drewN ?_ _ | refine blk_drew ?_ | refine blk_alloc ?_ _)); exact BK372.out) hb); have n1_ := Aside0.mk (below_step (by repeat (first | (with_reducible first | exact HB.out | apply below_alloc | apply pw_below_drewN | apply below_drew1 | refine below_set ?_ GE372.out) | exact HB.out)) hb); clear BK372; clear HB; have BK372 := n0_; have HB := n1_; clear n0_ n1_; (try clear hb); (try clear hb2); (try clear hk); (try clear hi); have hcz15_0 : w14.cell? ⟨gb372, 0, none⟩ = some (.int .i64 a0_0) := (blk_cell BK372.out 0).trans rfl; have hcz15_1 : w14.cell? ⟨gb372, 1, none⟩ = some (.int .i64 a0_1) := (blk_cell BK372.out 1).trans rfl; have hcz15_2 : w14.cell? ⟨gb372, 2, none⟩ = some (.int .i64 a0_2) := (blk_cell BK372.out 2).trans rfl; have hcz15_3 : w14.cell? ⟨gb372, 3, none⟩ = some (.int .i64 a0_3) := (blk_cell BK372.out 3).trans rfl; have hcz15_4 : w14.cell? ⟨gb372, 4, none⟩ = some (.bool a0_4) := (blk_cell BK372.out 4).trans rfl; have hfz15_0 := blk_frozen BK372.out 0; have hfz15_1 := blk_frozen BK372.out 1; have hfz15_2 := blk_frozen BK372.out 2; have hfz15_3 := blk_frozen BK372.out 3; have hfz15_4 := blk_frozen BK372.out 4) | ((with_reducible refine gate_callee (f := 32) rfl ?_); refine goesL_ (some 42) rfl rfl Try.func32 (by kernel_rfl) rfl #[.int .i64 a0_0, .int .i64 a0_2, .int .i64 a0_3, .bool a0_4] rfl (by (try simp only [List.map_toArray, List.map_cons, List.map_nil]); first | done | rfl | (simp only [List.length_drop, List.length_take]; rfl)) ?_; (with_reducible refine (period_Dates.calls k a0_0 a0_2 a0_3 a0_4 t378 t379 _ A6.out).mono ?_); rintro e w16 ⟨v380, rfl, ho0, hb⟩; refine ⟨_, rfl, ?_⟩; have n0_ := Aside0.mk (Kd.R_lower ho0 (below_size (by repeat (first | (with_reducible first | exact HB.out | apply below_alloc | apply pw_below_drewN | apply below_drew1 | refine below_set ?_ GE372.out) | exact HB.out)))); have n1_ := Aside0.mk (blk_below (g := gb372) (o := .cells #[.int .i64 a0_0, .int .i64 a0_1, .int .i64 a0_2, .int .i64 a0_3, .bool a0_4] 48 (0, 0)) (by (with_reducible repeat (first | refine blk_drewN ?_ _ | refine blk_drew ?_ | refine blk_alloc ?_ _)); exact BK372.out) hb); have n2_ := Aside0.mk (below_step (by repeat (first | (with_reducible first | exact HB.out | apply below_alloc | apply pw_below_drewN | apply below_drew1 | refine below_set ?_ GE372.out) | exact HB.out)) hb); clear BK372; clear HB; have HO381 := n0_; have BK372 := n1_; have HB := n2_; clear n0_ n1_ n2_; (try clear hb); (try clear hb2); (try clear hk); (try clear hi); (try clear ho0); have hcz17_0 : w16.cell? ⟨gb372, 0, none⟩ = some (.int .i64 a0_0) := (blk_cell BK372.out 0).trans rfl; have hcz17_1 : w16.cell? ⟨gb372, 1, none⟩ = some (.int .i64 a0_1) := (blk_cell BK372.out 1).trans rfl; have hcz17_2 : w16.cell? ⟨gb372, 2, none⟩ = some (.int .i64 a0_2) := (blk_cell BK372.out 2).trans rfl; have hcz17_3 : w16.cell? ⟨gb372, 3, none⟩ = some (.int .i64 a0_3) := (blk_cell BK372.out 3).trans rfl; have hcz17_4 : w16.cell? ⟨gb372, 4, none⟩ = some (.bool a0_4) := (blk_cell BK372.out 4).trans rfl; have hfz17_0 := blk_frozen BK372.out 0; have hfz17_1 := blk_frozen BK372.out 1; have hfz17_2 := blk_frozen BK372.out 2; have hfz17_3 := blk_frozen BK372.out 3; have hfz17_4 := blk_frozen BK372.out 4) | ((with_reducible refine gate_callee (f := 33) rfl ?_); refine goesL_ (some 54) rfl rfl Try.func33 (by kernel_rfl) rfl #[.int .i64 a0_0, .int .i64 a0_2, .int .i64 a0_3, .bool a0_4] rfl (by (try simp only [List.map_toArray, List.map_cons, List.map_nil]); first | done | rfl | (simp only [List.length_drop, List.length_take]; rfl)) ?_; (with_reducible refine (lombardref06_Dates.calls k a0_0 a0_2 a0_3 a0_4 t382 t383 _ A7.out).mono ?_); rintro e w18 ⟨v384, rfl, ho0, hb⟩; refine ⟨_, rfl, ?_⟩; have n0_ := Aside0.mk (Kd.R_elder' (by (with_reducible repeat (first | apply Kd.R_alloc | apply Kd.R_drewN | apply Kd.R_drew)); exact HO381.out) (Kd.R_base ho0) hb); have n1_ := Aside0.mk (Kd.R_lower (Kd.R_new' ho0 (Kd.R_lt (by (with_reducible repeat (first | apply Kd.R_alloc | apply Kd.R_drewN | apply Kd.R_drew)); exact HO381.out))) (below_size (by repeat (first | (with_reducible first | exact HB.out | apply below_alloc | apply pw_below_drewN | apply below_drew1 | refine below_set ?_ GE372.out) | exact HB.out)))); have n2_ := Aside0.mk (blk_below (g := gb372) (o := .cells #[.int .i64 a0_0, .int .i64 a0_1, .int .i64 a0_2, .int .i64 a0_3, .bool a0_4] 48 (0, 0)) (by (with_reducible repeat (first | refine blk_drewN ?_ _ | refine blk_drew ?_ | refine blk_alloc ?_ _)); exact BK372.out) hb); have n3_ := Aside0.mk (below_step (by repeat (first | (with_reducible first | exact HB.out | apply below_alloc | apply pw_below_drewN | apply below_drew1 | refine below_set ?_ GE372.out) | exact HB.out)) hb); clear HO381; clear BK372; clear HB; have HO381 := n0_; have HO385 := n1_; have BK372 := n2_; have HB := n3_; clear n0_ n1_ n2_ n3_; (try clear hb); (try clear hb2); (try clear hk); (try clear hi); (try clear ho0)))
    have H := HC8.out
    clear HC8
    by_cases c19 : t374 = t376
    · rw [if_pos c19] at H
      have c19b0 : (t374 == t376) = true := beq_iff_eq.mpr c19
      have c19b1 : (t374 != t376) = false := bne_eq_false_iff_eq.mpr c19
      clear c19
      by_cases c20 : t375 = t377
      · rw [if_pos c20] at H
        have c20b0 : (t375 == t377) = true := beq_iff_eq.mpr c20
        have c20b1 : (t375 != t377) = false := bne_eq_false_iff_eq.mpr c20
        clear c20
        replace H := Option.bind_eq_some_iff.mp H
        obtain ⟨t386, A210, H⟩ := H
        replace H : (if t386 = true then (some (t379 == t383)) else (some false)) = some r := H
        have A21 := Aside0.mk A210
        clear A210
        by_cases c22 : t386 = true
        · subst c22
          have H1 : (some (t379 == t383)) = some r := by rw [if_pos rfl] at H; exact H
          clear H
          have H := H1
          clear H1
          obtain rfl := Option.some.inj H
          obtain ⟨Ao23, co23, eo23⟩ := Kd.R_slice HO381.out
          subst eo23
          obtain ⟨Ao24, co24, eo24⟩ := Kd.R_slice HO385.out
          subst eo24
          go_wp2_with (first | (go_at_call 34; (with_reducible refine (lombardref06_Ints.calls k _ _ t378 _ _ t382 true _ ?side1 ?side2 ?side3 ?side4 A21.out).mono ?_); (case side1 => repeat (first | exact (Kd.R_reads' HO381.out).2.2 | (with_reducible refine Kd.C_alloc ?_ _) | (with_reducible refine Kd.C_drewN ?_ _) | (with_reducible refine Kd.C_drew ?_))); (case side2 => exact (Kd.R_reads' HO381.out).2.1); (case side3 => repeat (first | exact (Kd.R_reads' HO385.out).2.2 | (with_reducible refine Kd.C_alloc ?_ _) | (with_reducible refine Kd.C_drewN ?_ _) | (with_reducible refine Kd.C_drew ?_))); (case side4 => exact (Kd.R_reads' HO385.out).2.1); rintro e w' ⟨rfl, ⟨nd, rfl⟩⟩))
          go_ret
          exact ⟨by first | rfl | (simp [errW_none, errW_some] <;> rfl) | (simp [*, errW_none, errW_some] <;> rfl), by repeat (first | (with_reducible first | exact HB.out | apply below_alloc | apply pw_below_drewN | apply below_drew1 | refine below_set ?_ GE372.out) | exact HB.out)⟩
        · replace c22 := Bool.eq_false_iff.mpr c22
          subst c22
          have H1 : (some false) = some r := by rw [if_neg (show ¬ (false = true) by decide)] at H; exact H
          clear H
          have H := H1
          clear H1
          obtain rfl := Option.some.inj H
          obtain ⟨Ao25, co25, eo25⟩ := Kd.R_slice HO381.out
          subst eo25
          obtain ⟨Ao26, co26, eo26⟩ := Kd.R_slice HO385.out
          subst eo26
          go_wp2_with (first | (go_at_call 34; (with_reducible refine (lombardref06_Ints.calls k _ _ t378 _ _ t382 false _ ?side1 ?side2 ?side3 ?side4 A21.out).mono ?_); (case side1 => repeat (first | exact (Kd.R_reads' HO381.out).2.2 | (with_reducible refine Kd.C_alloc ?_ _) | (with_reducible refine Kd.C_drewN ?_ _) | (with_reducible refine Kd.C_drew ?_))); (case side2 => exact (Kd.R_reads' HO381.out).2.1); (case side3 => repeat (first | exact (Kd.R_reads' HO385.out).2.2 | (with_reducible refine Kd.C_alloc ?_ _) | (with_reducible refine Kd.C_drewN ?_ _) | (with_reducible refine Kd.C_drew ?_))); (case side4 => exact (Kd.R_reads' HO385.out).2.1); rintro e w' ⟨rfl, ⟨nd, rfl⟩⟩))
          go_ret
          exact ⟨by first | rfl | (simp [errW_none, errW_some] <;> rfl) | (simp [*, errW_none, errW_some] <;> rfl), by repeat (first | (with_reducible first | exact HB.out | apply below_alloc | apply pw_below_drewN | apply below_drew1 | refine below_set ?_ GE372.out) | exact HB.out)⟩
      · rw [if_neg c20] at H
        have c20b0 : (t375 == t377) = false := beq_eq_false_iff_ne.mpr c20
        have c20b1 : (t375 != t377) = true := bne_iff_ne.mpr c20
        obtain rfl := Option.some.inj H
        go_wp2
        go_ret
        exact ⟨by first | rfl | (simp [errW_none, errW_some] <;> rfl) | (simp [*, errW_none, errW_some] <;> rfl), by repeat (first | (with_reducible first | exact HB.out | apply below_alloc | apply pw_below_drewN | apply below_drew1 | refine below_set ?_ GE372.out) | exact HB.out)⟩
    · rw [if_neg c19] at H
      have c19b0 : (t374 == t376) = false := beq_eq_false_iff_ne.mpr c19
      have c19b1 : (t374 != t376) = true := bne_iff_ne.mpr c19
      obtain rfl := Option.some.inj H
      go_wp2
      go_ret
      exact ⟨by first | rfl | (simp [errW_none, errW_some] <;> rfl) | (simp [*, errW_none, errW_some] <;> rfl), by repeat (first | (with_reducible first | exact HB.out | apply below_alloc | apply pw_below_drewN | apply below_drew1 | refine below_set ?_ GE372.out) | exact HB.out)⟩
  · replace c3 := Bool.eq_false_iff.mpr c3
    subst c3
    have H1 : (some false) = some r := by rw [if_neg (show ¬ (false = true) by decide)] at H; exact H
    clear H
    have H := H1
    clear H1
    obtain rfl := Option.some.inj H
    go_enter Try.func11, Try.ntmps11
    go_wp2_with (first | ((with_reducible refine gate_dst (N := 1) rfl ?_); refine box_event ?hg (N := 1) ?hd (cs := #[.int .i64 a0_0, .int .i64 a0_1, .int .i64 a0_2, .int .i64 a0_3, .bool a0_4]) (t := 48) ?hr ?_; (case hd => rfl); (case hg => rfl); (case hr => first | (go_simp; done) | (go_simp; rfl)); intro gb372 hg w27 hbox hb; have n0_ := Aside0.mk (below_step (by repeat (first | (with_reducible first | exact HB.out | apply below_alloc | apply pw_below_drewN | apply below_drew1) | exact HB.out)) hb); have n1_ := Aside0.mk (hbox); have n2_ := Aside0.mk ((by rw [hg]; exact (below_size (by repeat (first | (with_reducible first | exact HB.out | apply below_alloc | apply pw_below_drewN | apply below_drew1) | exact HB.out))) : w.heap.size ≤ gb372)); have n3_ := Aside0.mk ((by rw [hg]; exact (below_size (by repeat (first | (with_reducible first | exact HB.out | apply below_alloc | apply pw_below_drewN | apply below_drew1) | exact HB.out))) : w.heap.size ≤ gb372)); clear HB; have HB := n0_; have BK372 := n1_; have GW372 := n2_; have GE372 := n3_; clear n0_ n1_ n2_ n3_; clear hb hbox hg) | ((with_reducible refine gate_callee (f := 25) rfl ?_); refine goesL_ (some 11) rfl rfl Try.func25 (by kernel_rfl) rfl #[] rfl (by (try simp only [List.map_toArray, List.map_cons, List.map_nil]); first | done | rfl | (simp only [List.length_drop, List.length_take]; rfl)) ?_; (with_reducible refine (lombardlaw06_alive.calls k  false _ A2.out).mono ?_); rintro e w28 ⟨rfl, hb⟩; refine ⟨_, rfl, ?_⟩; have n0_ := Aside0.mk (blk_below (g := gb372) (o := .cells #[.int .i64 a0_0, .int .i64 a0_1, .int .i64 a0_2, .int .i64 a0_3, .bool a0_4] 48 (0, 0)) (by (with_reducible repeat (first | refine blk_drewN ?_ _ | refine blk_drew ?_ | refine blk_alloc ?_ _)); exact BK372.out) hb); have n1_ := Aside0.mk (below_step (by repeat (first | (with_reducible first | exact HB.out | apply below_alloc | apply pw_below_drewN | apply below_drew1 | refine below_set ?_ GE372.out) | exact HB.out)) hb); clear BK372; clear HB; have BK372 := n0_; have HB := n1_; clear n0_ n1_; (try clear hb); (try clear hb2); (try clear hk); (try clear hi)))
    go_ret
    exact ⟨by first | rfl | (simp [errW_none, errW_some] <;> rfl) | (simp [*, errW_none, errW_some] <;> rfl), by repeat (first | (with_reducible first | exact HB.out | apply below_alloc | apply pw_below_drewN | apply below_drew1 | refine below_set ?_ GE372.out) | exact HB.out)⟩

/-- THE PURE STATEMENT of lombardlaw06_PeriodMonths. -/
def lombardlaw06_PeriodMonths.Pure : Prop := ∀ (a0_0 : Int) (a0_1 : Int) (a0_2 : Int) (a0_3 : Int) (a0_4 : Bool), (Lit.int .i64 a0_0).wf = true → (Lit.int .i64 a0_1).wf = true → (Lit.int .i64 a0_2).wf = true → (Lit.int .i64 a0_3).wf = true → ∃ k, lombardlaw06_PeriodMonths.f k a0_0 a0_1 a0_2 a0_3 a0_4 = some true
theorem lombardlaw06_PeriodMonths.walk (P : lombardlaw06_PeriodMonths.Pure) (a0_0 : Int) (a0_1 : Int) (a0_2 : Int) (a0_3 : Int) (a0_4 : Bool) (w : World)  (hg0_0 : (Lit.int .i64 a0_0).wf = true) (hg0_1 : (Lit.int .i64 a0_1).wf = true) (hg0_2 : (Lit.int .i64 a0_2).wf = true) (hg0_3 : (Lit.int .i64 a0_3).wf = true) :
    Calls Try.prog 11 #[.agg #[.int .i64 a0_0, .int .i64 a0_1, .int .i64 a0_2, .int .i64 a0_3, .bool a0_4]] w fun e w' => e = .returned (.bool true) ∧ Below w.heap.size w w' := by
  obtain ⟨k, h⟩ := P a0_0 a0_1 a0_2 a0_3 a0_4 hg0_0 hg0_1 hg0_2 hg0_3
  refine (lombardlaw06_PeriodMonths.calls k a0_0 a0_1 a0_2 a0_3 a0_4 true w  h).mono ?_
  rintro e w' ⟨rfl, hd⟩
  exact ⟨rfl, hd⟩

end Go.Proofs.Ytdfaedikjfbbjaa.S
