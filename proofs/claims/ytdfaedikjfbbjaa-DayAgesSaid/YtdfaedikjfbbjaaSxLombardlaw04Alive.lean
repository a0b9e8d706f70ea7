/- Printed by a program of this session out of the translation: what each function called here computes, and that its call comes to just that. Conditions: none beyond those that each theorem names. -/
import Derived.Test.YtdfaedikjfbbjaaSx0
import Derived.Test.YtdfaedikjfbbjaaSxE1
import Derived.Test.YtdfaedikjfbbjaaSxDayFrom
import Derived.Test.YtdfaedikjfbbjaaSxDayTo
import Derived.Test.YtdfaedikjfbbjaaSxDayWeekday
namespace Go.Proofs.Ytdfaedikjfbbjaa.S
open Go.RowKit Go.Proofs.YtdfaedikjfbbjaaW.PrintWords Go.Proofs.YtdfaedikjfbbjaaW.PrintLast Go.Proofs.YtdfaedikjfbbjaaW.PrintMore
attribute [local go_sem] max2_int min2_int max_two min_two max_three min_three max_four min_four   -- for this text's walks alone
attribute [local go_sem] Go.Proofs.Ytdfaedikjfbbjaa.XWalk.cell2
set_option linter.unusedVariables false
set_option linter.unusedSimpArgs false

attribute [local go_sem high] eqA23
/-! ### lombardlaw04_alive: function 14 -/
def lombardlaw04_alive.f (k : Nat)  : Option (Bool) := (day_From.f k 2000 1 1).bind fun bt112 => ((day_To.f k 3652059).bind fun bt114 => (if bt112.1 = 730120 then (if bt112.2 = 0 then ((day_Weekday.f bt112.1).bind fun t119 => (if t119 = 5 then (if (bt114.1 == 9999 && (bt114.2.1 == 12 && (bt114.2.2.1 == 31))) = true then (some (bt114.2.2.2 == 0)) else (some false)) else (some false))) else (some false)) else (some false)))
theorem lombardlaw04_alive.mono : ∀ k, LeO (lombardlaw04_alive.f k ) (lombardlaw04_alive.f (k + 1) ) := by
  intro  k
  unfold lombardlaw04_alive.f
  repeat' first
      | (with_reducible exact day_From.mono _ _ _ _)
      | (with_reducible exact day_To.mono _ _)
      | (with_reducible exact LeO.refl _)
      | (with_reducible exact LeO.none _)
      | (with_reducible refine LeO.ite ?_ ?_)
      | (with_reducible refine LeO.bind ?_ (fun _ => ?_))
      | exact day_From.mono _ _ _ _
      | exact day_To.mono _ _
      | exact LeO.none _
      | refine LeO.ite ?_ ?_
      | refine LeO.bind ?_ (fun _ => ?_)
set_option maxHeartbeats 8000000 in
set_option maxRecDepth 100000 in
theorem lombardlaw04_alive.calls (k : Nat)  (r : Bool) (w : World) (h : lombardlaw04_alive.f k  = some r) :
    Calls Try.prog 14 #[] w fun e w' => e = .returned (.bool r) ∧ Below w.heap.size w w' := by
  have hu23 := Try.underlying23
  have HB := Aside0.mk (Below.refl w.heap.size w)
  have H : ((day_From.f k 2000 1 1).bind fun bt112 => ((day_To.f k 3652059).bind fun bt114 => (if bt112.1 = 730120 then (if bt112.2 = 0 then ((day_Weekday.f bt112.1).bind fun t119 => (if t119 = 5 then (if (bt114.1 == 9999 && (bt114.2.1 == 12 && (bt114.2.2.1 == 31))) = true then (some (bt114.2.2.2 == 0)) else (some false)) else (some false))) else (some false)) else (some false)))) = some r := h
  clear h
  replace H := Option.bind_eq_some_iff.mp H
  obtain ⟨⟨t112, t113⟩, A10, H⟩ := H
  replace H : ((day_To.f k 3652059).bind fun bt114 => (if t112 = 730120 then (if t113 = 0 then ((day_Weekday.f t112).bind fun t119 => (if t119 = 5 then (if (bt114.1 == 9999 && (bt114.2.1 == 12 && (bt114.2.2.1 == 31))) = true then (some (bt114.2.2.2 == 0)) else (some false)) else (some false))) else (some false)) else (some false))) = some r := H
  have A1 := Aside0.mk A10
  clear A10
  replace H := Option.bind_eq_some_iff.mp H
  obtain ⟨⟨t114, t115, t116, t117⟩, A20, H⟩ := H
  replace H : (if t112 = 730120 then (if t113 = 0 then ((day_Weekday.f t112).bind fun t119 => (if t119 = 5 then (if (t114 == 9999 && (t115 == 12 && (t116 == 31))) = true then (some (t117 == 0)) else (some false)) else (some false))) else (some false)) else (some false)) = some r := H
  have A2 := Aside0.mk A20
  clear A20
  have HC3 := Aside0.mk H
  clear H
  go_enter Try.func14, Try.ntmps14
  go_upto_region 3 with (first | ((with_reducible refine gate_callee (f := 15) rfl ?_); refine goesL_ (some 7) rfl rfl Try.func15 (by kernel_rfl) rfl #[.agg #[.int .i64 2000, .int .i64 1, .int .i64 1]] rfl (by (try simp only [List.map_toArray, List.map_cons, List.map_nil]); first | done | rfl | (simp only [List.length_drop, List.length_take]; rfl)) ?_; (with_reducible refine (day_From.calls k 2000 1 1 t112 t113 _ A1.out).mono ?_); rintro e w4 ⟨rfl, hb⟩; refine ⟨_, rfl, ?_⟩; have n0_ := Aside0.mk (below_step (by repeat (first | (with_reducible first | exact HB.out | apply below_alloc | apply pw_below_drewN | apply below_drew1) | exact HB.out)) hb); clear HB; have HB := n0_; clear n0_; (try clear hb); (try clear hb2); (try clear hk); (try clear hi)) | ((with_reducible refine gate_callee (f := 17) rfl ?_); refine goesL_ (some 11) rfl rfl Try.func17 (by kernel_rfl) rfl #[.int .i64 3652059] rfl (by (try simp only [List.map_toArray, List.map_cons, List.map_nil]); first | done | rfl | (simp only [List.length_drop, List.length_take]; rfl)) ?_; (with_reducible refine (day_To.calls k 3652059 t114 t115 t116 t117 _ A2.out).mono ?_); rintro e w5 ⟨rfl, hb⟩; refine ⟨_, rfl, ?_⟩; have n0_ := Aside0.mk (below_step (by repeat (first | (with_reducible first | exact HB.out | apply below_alloc | apply pw_below_drewN | apply below_drew1) | exact HB.out)) hb); clear HB; have HB := n0_; clear n0_; (try clear hb); (try clear hb2); (try clear hk); (try clear hi)) | ((with_reducible refine gate_dst (N := 3) rfl ?_); refine box_event ?hg (N := 3) ?hd (cs := #[.int .i64 0, .int .i64 0, .int .i64 0]) (t := 23) ?hr ?_; (case hd => rfl); (case hg => rfl); (case hr => first | (go_simp; done) | (go_simp; rfl)); intro gb118 hg w6 hbox hb; have n0_ := Aside0.mk (below_step (by repeat (first | (with_reducible first | exact HB.out | apply below_alloc | apply pw_below_drewN | apply below_drew1) | exact HB.out)) hb); have n1_ := Aside0.mk (hbox); have n2_ := Aside0.mk ((by rw [hg]; exact (below_size (by repeat (first | (with_reducible first | exact HB.out | apply below_alloc | apply pw_below_drewN | apply below_drew1) | exact HB.out))) : w.heap.size ≤ gb118)); have n3_ := Aside0.mk ((by rw [hg]; exact (below_size (by repeat (first | (with_reducible first | exact HB.out | apply below_alloc | apply pw_below_drewN | apply below_drew1) | exact HB.out))) : w.heap.size ≤ gb118)); clear HB; have HB := n0_; have BK118 := n1_; have GW118 := n2_; have GE118 := n3_; clear n0_ n1_ n2_ n3_; clear hb hbox hg; have hcz7_0 : w6.cell? ⟨gb118, 0, none⟩ = some (.int .i64 0) := (blk_cell BK118.out 0).trans rfl; have hcz7_1 : w6.cell? ⟨gb118, 1, none⟩ = some (.int .i64 0) := (blk_cell BK118.out 1).trans rfl; have hcz7_2 : w6.cell? ⟨gb118, 2, none⟩ = some (.int .i64 0) := (blk_cell BK118.out 2).trans rfl; have hfz7_0 := blk_frozen BK118.out 0; have hfz7_1 := blk_frozen BK118.out 1; have hfz7_2 := blk_frozen BK118.out 2))
  have H := HC3.out
  clear HC3
  by_cases c8 : t112 = 730120
  · rw [if_pos c8] at H
    have c8b0 : (t112 == 730120) = true := beq_iff_eq.mpr c8
    have c8b1 : (t112 != 730120) = false := bne_eq_false_iff_eq.mpr c8
    clear c8
    by_cases c9 : t113 = 0
    · rw [if_pos c9] at H
      have c9b0 : (t113 == 0) = true := beq_iff_eq.mpr c9
      have c9b1 : (t113 != 0) = false := bne_eq_false_iff_eq.mpr c9
      clear c9
      replace H := Option.bind_eq_some_iff.mp H
      obtain ⟨t119, A100, H⟩ := H
      replace H : (if t119 = 5 then (if (t114 == 9999 && (t115 == 12 && (t116 == 31))) = true then (some (t117 == 0)) else (some false)) else (some false)) = some r := H
      have A10 := Aside0.mk A100
      clear A100
      by_cases c11 : t119 = 5
      · rw [if_pos c11] at H
        have c11b0 : (t119 == 5) = true := beq_iff_eq.mpr c11
        have c11b1 : (t119 != 5) = false := bne_eq_false_iff_eq.mpr c11
        clear c11
        by_cases c12 : (t114 == 9999 && (t115 == 12 && (t116 == 31))) = true
        · rw [if_pos c12] at H
          have c12b0 : (t114 == 9999 && (t115 == 12 && (t116 == 31))) = true := c12
          (try (have c12b1 : decide (t114 = 9999 && (t115 == 12 && (t116 == 31))) = true := by simpa using c12))
          (try (have c12b2 : (t114 == 9999 && (t115 == 12 && (t116 == 31))) = true := by simpa using c12))
          clear c12
          obtain rfl := Option.some.inj H
          go_wp2_with (first | (go_at_call 19; (with_reducible refine (day_Weekday.calls t112 t119 _ A10.out).mono ?_); rintro e w' ⟨rfl, ⟨nd, rfl⟩⟩; have hcz13_0 : w6.cell? ⟨gb118, 0, none⟩ = some (.int .i64 0) := (blk_cell BK118.out 0).trans rfl; have hcz13_1 : w6.cell? ⟨gb118, 1, none⟩ = some (.int .i64 0) := (blk_cell BK118.out 1).trans rfl; have hcz13_2 : w6.cell? ⟨gb118, 2, none⟩ = some (.int .i64 0) := (blk_cell BK118.out 2).trans rfl; have hfz13_0 := blk_frozen BK118.out 0; have hfz13_1 := blk_frozen BK118.out 1; have hfz13_2 := blk_frozen BK118.out 2))
          go_ret
          exact ⟨by first | rfl | (simp [errW_none, errW_some] <;> rfl) | (simp [*, errW_none, errW_some] <;> rfl), by repeat (first | (with_reducible first | exact HB.out | apply below_alloc | apply pw_below_drewN | apply below_drew1 | refine below_set ?_ GE118.out) | exact HB.out)⟩
        · rw [if_neg c12] at H
          have c12b0 : (t114 == 9999 && (t115 == 12 && (t116 == 31))) = false := by simpa using c12
          (try (have c12b1 : decide (t114 = 9999 && (t115 == 12 && (t116 == 31))) = false := by simpa using c12))
          (try (have c12b2 : (t114 == 9999 && (t115 == 12 && (t116 == 31))) = false := by simpa using c12))
          (try (have c12b3 : ¬ (t114 = 9999 && (t115 == 12 && (t116 == 31))) := by simpa using c12))
          clear c12
          obtain rfl := Option.some.inj H
          go_wp2_with (first | (go_at_call 19; (with_reducible refine (day_Weekday.calls t112 t119 _ A10.out).mono ?_); rintro e w' ⟨rfl, ⟨nd, rfl⟩⟩; have hcz14_0 : w6.cell? ⟨gb118, 0, none⟩ = some (.int .i64 0) := (blk_cell BK118.out 0).trans rfl; have hcz14_1 : w6.cell? ⟨gb118, 1, none⟩ = some (.int .i64 0) := (blk_cell BK118.out 1).trans rfl; have hcz14_2 : w6.cell? ⟨gb118, 2, none⟩ = some (.int .i64 0) := (blk_cell BK118.out 2).trans rfl; have hfz14_0 := blk_frozen BK118.out 0; have hfz14_1 := blk_frozen BK118.out 1; have hfz14_2 := blk_frozen BK118.out 2))
          go_ret
          exact ⟨by first | rfl | (simp [errW_none, errW_some] <;> rfl) | (simp [*, errW_none, errW_some] <;> rfl), by repeat (first | (with_reducible first | exact HB.out | apply below_alloc | apply pw_below_drewN | apply below_drew1 | refine below_set ?_ GE118.out) | exact HB.out)⟩
      · rw [if_neg c11] at H
        have c11b0 : (t119 == 5) = false := beq_eq_false_iff_ne.mpr c11
        have c11b1 : (t119 != 5) = true := bne_iff_ne.mpr c11
        obtain rfl := Option.some.inj H
        go_wp2_with (first | (go_at_call 19; (with_reducible refine (day_Weekday.calls t112 t119 _ A10.out).mono ?_); rintro e w' ⟨rfl, ⟨nd, rfl⟩⟩))
        go_ret
        exact ⟨by first | rfl | (simp [errW_none, errW_some] <;> rfl) | (simp [*, errW_none, errW_some] <;> rfl), by repeat (first | (with_reducible first | exact HB.out | apply below_alloc | apply pw_below_drewN | apply below_drew1 | refine below_set ?_ GE118.out) | exact HB.out)⟩
    · rw [if_neg c9] at H
      have c9b0 : (t113 == 0) = false := beq_eq_false_iff_ne.mpr c9
      have c9b1 : (t113 != 0) = true := bne_iff_ne.mpr c9
      obtain rfl := Option.some.inj H
      go_wp2
      go_ret
      exact ⟨by first | rfl | (simp [errW_none, errW_some] <;> rfl) | (simp [*, errW_none, errW_some] <;> rfl), by repeat (first | (with_reducible first | exact HB.out | apply below_alloc | apply pw_below_drewN | apply below_drew1 | refine below_set ?_ GE118.out) | exact HB.out)⟩
  · rw [if_neg c8] at H
    have c8b0 : (t112 == 730120) = false := beq_eq_false_iff_ne.mpr c8
    have c8b1 : (t112 != 730120) = true := bne_iff_ne.mpr c8
    obtain rfl := Option.some.inj H
    go_wp2
    go_ret
    exact ⟨by first | rfl | (simp [errW_none, errW_some] <;> rfl) | (simp [*, errW_none, errW_some] <;> rfl), by repeat (first | (with_reducible first | exact HB.out | apply below_alloc | apply pw_below_drewN | apply below_drew1 | refine below_set ?_ GE118.out) | exact HB.out)⟩

end Go.Proofs.Ytdfaedikjfbbjaa.S
