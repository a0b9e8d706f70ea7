/- Texts of the statement CountBringsSaid, laid together. Conditions: none beyond those that each theorem names. -/
import Derived.Test.YtioicmialbimfaaSx0
import Derived.Test.YtioicmialbimfaaSxWideDiv
import Derived.Handy
import Derived.Test.YtioicmialbimfaaSxCountBasis
import Derived.Test.YtioicmialbimfaaSxCountFlat
import Derived.Test.YtioicmialbimfaaSxCountReal
import Derived.Test.YtioicmialbimfaaSxDayNumber
import Derived.Test.YtioicmialbimfaaSxDayLast
section
namespace Go.Proofs.Ytioicmialbimfaa.S
open Go.RowKit Go.Proofs.YtioicmialbimfaaW.PrintWords Go.Proofs.YtioicmialbimfaaW.PrintLast Go.Proofs.YtioicmialbimfaaW.PrintMore
attribute [local go_sem] max2_int min2_int max_two min_two max_three min_three max_four min_four   -- for this text's walks alone
attribute [local go_sem] Go.Proofs.Ytioicmialbimfaa.XWalk.cell2
set_option linter.unusedVariables false
set_option linter.unusedSimpArgs false

/-! ### rate_May: function 21 -/
def rate_May.f (a0 : Int) : Option (Bool) := if a0 ≥ (-990000000000) then (some (decide (a0 ≤ 10000000000000))) else (some false)
set_option maxHeartbeats 8000000 in
set_option maxRecDepth 100000 in
theorem rate_May.calls (a0 : Int) (r : Bool) (w : World) (h : rate_May.f a0 = some r) :
    Calls Try.prog 21 #[.int .i64 a0] w fun e w' => e = .returned (.bool r) ∧ Drawn0 w w' := by
  have H : (if a0 ≥ (-990000000000) then (some (decide (a0 ≤ 10000000000000))) else (some false)) = some r := h
  clear h
  by_cases c2 : a0 ≥ (-990000000000)
  · rw [if_pos c2] at H
    have c2b0 : decide ((-990000000000) ≤ a0) = true := decide_eq_true c2
    clear c2
    obtain rfl := Option.some.inj H
    go_enter Try.func21, Try.ntmps21
    go_wp2
    go_ret
    exact ⟨by first | rfl | (simp; done) | (simp [*]; done), by repeat (first | exact Drawn0.refl _ | apply Drawn0.step)⟩
  · rw [if_neg c2] at H
    have c2b0 : decide ((-990000000000) ≤ a0) = false := decide_eq_false c2
    clear c2
    obtain rfl := Option.some.inj H
    go_enter Try.func21, Try.ntmps21
    go_wp2
    go_ret
    exact ⟨by first | rfl | (simp; done) | (simp [*]; done), by repeat (first | exact Drawn0.refl _ | apply Drawn0.step)⟩

end Go.Proofs.Ytioicmialbimfaa.S
end

section
namespace Go.Proofs.Ytioicmialbimfaa.S
open Go.RowKit Go.Proofs.YtioicmialbimfaaW.PrintWords Go.Proofs.YtioicmialbimfaaW.PrintLast Go.Proofs.YtioicmialbimfaaW.PrintMore
attribute [local go_sem] max2_int min2_int max_two min_two max_three min_three max_four min_four   -- for this text's walks alone
attribute [local go_sem] Go.Proofs.Ytioicmialbimfaa.XWalk.cell2
set_option linter.unusedVariables false
set_option linter.unusedSimpArgs false

/-! ### math_bits_Mul64: function 61 -/
def math_bits_Mul64.f (a0 : Int) (a1 : Int) : Option (Int × Int) := some (IntKind.u64.wrap ((IntKind.u64.wrap ((IntKind.u64.wrap ((a0 / 4294967296) * (a1 / 4294967296))) + ((IntKind.u64.wrap ((IntKind.u64.wrap ((a0 / 4294967296) * (Go.bits .and .u64 a1 4294967295))) + ((IntKind.u64.wrap ((Go.bits .and .u64 a0 4294967295) * (Go.bits .and .u64 a1 4294967295))) / 4294967296))) / 4294967296))) + ((IntKind.u64.wrap ((Go.bits .and .u64 (IntKind.u64.wrap ((IntKind.u64.wrap ((a0 / 4294967296) * (Go.bits .and .u64 a1 4294967295))) + ((IntKind.u64.wrap ((Go.bits .and .u64 a0 4294967295) * (Go.bits .and .u64 a1 4294967295))) / 4294967296))) 4294967295) + (IntKind.u64.wrap ((Go.bits .and .u64 a0 4294967295) * (a1 / 4294967296))))) / 4294967296)), IntKind.u64.wrap (a0 * a1))
set_option maxHeartbeats 8000000 in
set_option maxRecDepth 100000 in
theorem math_bits_Mul64.calls (a0 : Int) (a1 : Int) (r1 : Int) (r2 : Int) (w : World) (h : math_bits_Mul64.f a0 a1 = some (r1, r2)) :
    Calls Try.prog 61 #[.int .u64 a0, .int .u64 a1] w fun e w' => e = .returned (.tuple #[.int .u64 r1, .int .u64 r2]) ∧ Drawn0 w w' := by
  have H : (some (IntKind.u64.wrap ((IntKind.u64.wrap ((IntKind.u64.wrap ((a0 / 4294967296) * (a1 / 4294967296))) + ((IntKind.u64.wrap ((IntKind.u64.wrap ((a0 / 4294967296) * (Go.bits .and .u64 a1 4294967295))) + ((IntKind.u64.wrap ((Go.bits .and .u64 a0 4294967295) * (Go.bits .and .u64 a1 4294967295))) / 4294967296))) / 4294967296))) + ((IntKind.u64.wrap ((Go.bits .and .u64 (IntKind.u64.wrap ((IntKind.u64.wrap ((a0 / 4294967296) * (Go.bits .and .u64 a1 4294967295))) + ((IntKind.u64.wrap ((Go.bits .and .u64 a0 4294967295) * (Go.bits .and .u64 a1 4294967295))) / 4294967296))) 4294967295) + (IntKind.u64.wrap ((Go.bits .and .u64 a0 4294967295) * (a1 / 4294967296))))) / 4294967296)), IntKind.u64.wrap (a0 * a1))) = some (r1, r2) := h
  clear h
  simp only [Option.some.injEq, Prod.mk.injEq] at H
  obtain ⟨rfl, rfl⟩ := H
  go_enter Try.func61, Try.ntmps61
  go_wp2
  go_ret2
  exact ⟨by first | rfl | (simp; done) | (simp [*]; done), by repeat (first | exact Drawn0.refl _ | apply Drawn0.step)⟩

end Go.Proofs.Ytioicmialbimfaa.S
end

section
namespace Go.Proofs.Ytioicmialbimfaa.S
open Go.RowKit Go.Proofs.YtioicmialbimfaaW.PrintWords Go.Proofs.YtioicmialbimfaaW.PrintLast Go.Proofs.YtioicmialbimfaaW.PrintMore
attribute [local go_sem] max2_int min2_int max_two min_two max_three min_three max_four min_four   -- for this text's walks alone
attribute [local go_sem] Go.Proofs.Ytioicmialbimfaa.XWalk.cell2
set_option linter.unusedVariables false
set_option linter.unusedSimpArgs false

/-! ### wide_Mul: function 48 -/
def wide_Mul.f (a0 : Int) (a1 : Int) : Option (Int × Int) := (math_bits_Mul64.f (IntKind.u64.wrap (a0)) (IntKind.u64.wrap (a1))).bind fun bt118 => (some (wrap64 ((wrap64 ((wrap64 (bt118.1)) - (Go.bits .and .i64 (a0 / 9223372036854775808) a1))) - (Go.bits .and .i64 (a1 / 9223372036854775808) a0)), bt118.2))
set_option maxHeartbeats 8000000 in
set_option maxRecDepth 100000 in
theorem wide_Mul.calls (a0 : Int) (a1 : Int) (r1 : Int) (r2 : Int) (w : World) (h : wide_Mul.f a0 a1 = some (r1, r2)) :
    Calls Try.prog 48 #[.int .i64 a0, .int .i64 a1] w fun e w' => e = .returned (.agg #[.int .i64 r1, .int .u64 r2]) ∧ Below w.heap.size w w' := by
  have hu79 := Try.underlying79
  have HB := Aside0.mk (Below.refl w.heap.size w)
  have H : ((math_bits_Mul64.f (IntKind.u64.wrap (a0)) (IntKind.u64.wrap (a1))).bind fun bt118 => (some (wrap64 ((wrap64 ((wrap64 (bt118.1)) - (Go.bits .and .i64 (a0 / 9223372036854775808) a1))) - (Go.bits .and .i64 (a1 / 9223372036854775808) a0)), bt118.2))) = some (r1, r2) := h
  clear h
  replace H := Option.bind_eq_some_iff.mp H
  obtain ⟨⟨t118, t119⟩, A30, H⟩ := H
  replace H : (some (wrap64 ((wrap64 ((wrap64 (t118)) - (Go.bits .and .i64 (a0 / 9223372036854775808) a1))) - (Go.bits .and .i64 (a1 / 9223372036854775808) a0)), t119)) = some (r1, r2) := H
  have A3 := Aside0.mk A30
  clear A30
  simp only [Option.some.injEq, Prod.mk.injEq] at H
  obtain ⟨rfl, rfl⟩ := H
  go_enter Try.func48, Try.ntmps48
  go_wp2_with (first | ((with_reducible refine gate_dst (N := 4) rfl ?_); refine box_event ?hg (N := 4) ?hd (cs := #[.int .i64 0, .int .u64 0]) (t := 79) ?hr ?_; (case hd => rfl); (case hg => rfl); (case hr => first | (go_simp; done) | (go_simp; rfl)); intro gb117 hg w4 hbox hb; have n0_ := Aside0.mk (below_step (by repeat (first | (with_reducible first | exact HB.out | apply below_alloc | apply pw_below_drewN | apply below_drew1) | exact HB.out)) hb); have n1_ := Aside0.mk (hbox); have n2_ := Aside0.mk ((by rw [hg]; exact (below_size (by repeat (first | (with_reducible first | exact HB.out | apply below_alloc | apply pw_below_drewN | apply below_drew1) | exact HB.out))) : w.heap.size ≤ gb117)); have n3_ := Aside0.mk ((by rw [hg]; exact (below_size (by repeat (first | (with_reducible first | exact HB.out | apply below_alloc | apply pw_below_drewN | apply below_drew1) | exact HB.out))) : w.heap.size ≤ gb117)); clear HB; have HB := n0_; have BK117 := n1_; have GW117 := n2_; have GE117 := n3_; clear n0_ n1_ n2_ n3_; clear hb hbox hg) | ((with_reducible refine gate_callee (f := 61) rfl ?_); refine goesL_ (some 13) rfl rfl Try.func61 (by kernel_rfl) rfl #[.int .u64 (IntKind.u64.wrap (a0)), .int .u64 (IntKind.u64.wrap (a1))] rfl (by (try simp only [List.map_toArray, List.map_cons, List.map_nil]); first | done | rfl | (simp only [List.length_drop, List.length_take]; rfl)) ?_; (with_reducible refine (math_bits_Mul64.calls (IntKind.u64.wrap (a0)) (IntKind.u64.wrap (a1)) t118 t119 _ A3.out).mono ?_); rintro e w' ⟨rfl, ⟨nd, rfl⟩⟩; refine ⟨_, rfl, ?_⟩; (try (rw [drewN_self w4]; generalize hq_ : World.drewN w4 _ = w4; have n0_ : Aside0 (w4.heap[gb117]? = some (.cells #[.int .i64 0, .int .u64 0] 79 (0, 0))) := ⟨by rw [← hq_]; exact (by (with_reducible repeat (first | refine blk_drewN ?_ _ | refine blk_drew ?_ | refine blk_alloc ?_ _)); exact BK117.out)⟩; have n1_ : Aside0 (Below w.heap.size w w4) := ⟨by rw [← hq_]; exact (by repeat (first | (with_reducible first | exact HB.out | apply below_alloc | apply pw_below_drewN | apply below_drew1 | refine below_set ?_ GE117.out) | exact HB.out))⟩; clear BK117 HB hq_; have BK117 := n0_; have HB := n1_; clear n0_ n1_)); (try (have hcz5_0 : w4.cell? ⟨gb117, 0, none⟩ = some (.int .i64 0) := (blk_cell BK117.out 0).trans rfl; have hfz5_0 := blk_frozen BK117.out 0; have hcz5_1 : w4.cell? ⟨gb117, 1, none⟩ = some (.int .u64 0) := (blk_cell BK117.out 1).trans rfl; have hfz5_1 := blk_frozen BK117.out 1))))
  refine bodyPost_ret (results_cell_row rfl _ _ gb117 79 #[.int .i64 (wrap64 ((wrap64 ((wrap64 (t118)) - (Go.bits .and .i64 (a0 / 9223372036854775808) a1))) - (Go.bits .and .i64 (a1 / 9223372036854775808) a0))), .int .u64 t119] (0, 0) _ rfl (by (with_reducible repeat (first | refine blk_drewN ?_ _ | refine blk_drew ?_ | refine blk_alloc ?_ _)); refine blk_put (cs := #[.int .i64 (wrap64 ((wrap64 ((wrap64 (t118)) - (Go.bits .and .i64 (a0 / 9223372036854775808) a1))) - (Go.bits .and .i64 (a1 / 9223372036854775808) a0))), .int .u64 0]) ?_ 1 _ rfl; (with_reducible repeat (first | refine blk_drewN ?_ _ | refine blk_drew ?_ | refine blk_alloc ?_ _)); refine blk_put (cs := #[.int .i64 0, .int .u64 0]) ?_ 0 _ rfl; (with_reducible repeat (first | refine blk_drewN ?_ _ | refine blk_drew ?_ | refine blk_alloc ?_ _)); exact BK117.out) Try.underlying79 rfl (by kernel_rfl)) rfl ?_
  exact ⟨by first | rfl | (simp [errW_none, errW_some] <;> rfl) | (simp [*, errW_none, errW_some] <;> rfl), by repeat (first | (with_reducible first | exact HB.out | apply below_alloc | apply pw_below_drewN | apply below_drew1 | refine below_set ?_ GE117.out) | exact HB.out)⟩

end Go.Proofs.Ytioicmialbimfaa.S
end

section
namespace Go.Proofs.Ytioicmialbimfaa.S
open Go.RowKit Go.Proofs.YtioicmialbimfaaW.PrintWords Go.Proofs.YtioicmialbimfaaW.PrintLast Go.Proofs.YtioicmialbimfaaW.PrintMore
attribute [local go_sem] max2_int min2_int max_two min_two max_three min_three max_four min_four   -- for this text's walks alone
attribute [local go_sem] Go.Proofs.Ytioicmialbimfaa.XWalk.cell2
set_option linter.unusedVariables false
set_option linter.unusedSimpArgs false

/-! ### wide_MulDiv: function 40 -/
def wide_MulDiv.f (k : Nat) (a0 : Int) (a1 : Int) (a2 : Int) (a3 : Int) : Option (Int × Int) := (wide_Mul.f a0 a1).bind fun bt120 => ((wide_Div.f k bt120.1 bt120.2 a2 a3).bind fun bt122 => (some (bt122.1, bt122.2)))
theorem wide_MulDiv.mono : ∀ a0 a1 a2 a3 k, LeO (wide_MulDiv.f k a0 a1 a2 a3) (wide_MulDiv.f (k + 1) a0 a1 a2 a3) := by
  intro a0 a1 a2 a3 k
  unfold wide_MulDiv.f
  repeat' first
      | (with_reducible exact wide_Div.mono _ _ _ _ _)
      | (with_reducible exact LeO.refl _)
      | (with_reducible exact LeO.none _)
      | (with_reducible refine LeO.ite ?_ ?_)
      | (with_reducible refine LeO.bind ?_ (fun _ => ?_))
      | exact wide_Div.mono _ _ _ _ _
      | exact LeO.none _
      | refine LeO.ite ?_ ?_
      | refine LeO.bind ?_ (fun _ => ?_)
set_option maxHeartbeats 8000000 in
set_option maxRecDepth 100000 in
theorem wide_MulDiv.calls (k : Nat) (a0 : Int) (a1 : Int) (a2 : Int) (a3 : Int) (r1 : Int) (r2 : Int) (w : World) (h : wide_MulDiv.f k a0 a1 a2 a3 = some (r1, r2)) :
    Calls Try.prog 40 #[.int .i64 a0, .int .i64 a1, .int .i64 a2, .int .i64 a3] w fun e w' => e = .returned (.tuple #[.int .i64 r1, .int .i64 r2]) ∧ Below w.heap.size w w' := by
  have HB := Aside0.mk (Below.refl w.heap.size w)
  have H : ((wide_Mul.f a0 a1).bind fun bt120 => ((wide_Div.f k bt120.1 bt120.2 a2 a3).bind fun bt122 => (some (bt122.1, bt122.2)))) = some (r1, r2) := h
  clear h
  replace H := Option.bind_eq_some_iff.mp H
  obtain ⟨⟨t120, t121⟩, A50, H⟩ := H
  replace H : ((wide_Div.f k t120 t121 a2 a3).bind fun bt122 => (some (bt122.1, bt122.2))) = some (r1, r2) := H
  have A5 := Aside0.mk A50
  clear A50
  replace H := Option.bind_eq_some_iff.mp H
  obtain ⟨⟨t122, t123⟩, A60, H⟩ := H
  replace H : (some (t122, t123)) = some (r1, r2) := H
  have A6 := Aside0.mk A60
  clear A60
  simp only [Option.some.injEq, Prod.mk.injEq] at H
  obtain ⟨rfl, rfl⟩ := H
  go_enter Try.func40, Try.ntmps40
  go_wp2_with (first | ((with_reducible refine gate_callee (f := 48) rfl ?_); refine goesL_ (some 12) rfl rfl Try.func48 (by kernel_rfl) rfl #[.int .i64 a0, .int .i64 a1] rfl (by (try simp only [List.map_toArray, List.map_cons, List.map_nil]); first | done | rfl | (simp only [List.length_drop, List.length_take]; rfl)) ?_; (with_reducible refine (wide_Mul.calls a0 a1 t120 t121 _ A5.out).mono ?_); rintro e w7 ⟨rfl, hb⟩; refine ⟨_, rfl, ?_⟩; have n0_ := Aside0.mk (below_step (by repeat (first | (with_reducible first | exact HB.out | apply below_alloc | apply pw_below_drewN | apply below_drew1) | exact HB.out)) hb); clear HB; have HB := n0_; clear n0_; (try clear hb); (try clear hb2); (try clear hk); (try clear hi)) | ((with_reducible refine gate_callee (f := 47) rfl ?_); refine goesL_ (some 15) rfl rfl Try.func47 (by kernel_rfl) rfl #[.agg #[.int .i64 t120, .int .u64 t121], .int .i64 a2, .int .i64 a3] rfl (by (try simp only [List.map_toArray, List.map_cons, List.map_nil]); first | done | rfl | (simp only [List.length_drop, List.length_take]; rfl)) ?_; (with_reducible refine (wide_Div.calls k t120 t121 a2 a3 t122 t123 _ A6.out).mono ?_); rintro e w8 ⟨rfl, hb⟩; refine ⟨_, rfl, ?_⟩; have n0_ := Aside0.mk (below_step (by repeat (first | (with_reducible first | exact HB.out | apply below_alloc | apply pw_below_drewN | apply below_drew1) | exact HB.out)) hb); clear HB; have HB := n0_; clear n0_; (try clear hb); (try clear hb2); (try clear hk); (try clear hi)))
  go_ret2
  exact ⟨by first | rfl | (simp [errW_none, errW_some] <;> rfl) | (simp [*, errW_none, errW_some] <;> rfl), by repeat (first | (with_reducible first | exact HB.out | apply below_alloc | apply pw_below_drewN | apply below_drew1) | exact HB.out)⟩

end Go.Proofs.Ytioicmialbimfaa.S
end

section
namespace Go.Proofs.Ytioicmialbimfaa.S
open Go.RowKit Go.Proofs.YtioicmialbimfaaW.PrintWords Go.Proofs.YtioicmialbimfaaW.PrintLast Go.Proofs.YtioicmialbimfaaW.PrintMore
attribute [local go_sem] max2_int min2_int max_two min_two max_three min_three max_four min_four   -- for this text's walks alone
attribute [local go_sem] Go.Proofs.Ytioicmialbimfaa.XWalk.cell2
set_option linter.unusedVariables false
set_option linter.unusedSimpArgs false

/-! ### rate_yield_terms: function 89 -/
def rate_yield_terms.f (a0 : Int) : Option (Int × Int) := some (a0, 1000000000000)
set_option maxHeartbeats 8000000 in
set_option maxRecDepth 100000 in
theorem rate_yield_terms.calls (a0 : Int) (r1 : Int) (r2 : Int) (w : World) (h : rate_yield_terms.f a0 = some (r1, r2)) :
    Calls Try.prog 89 #[.int .i64 a0] w fun e w' => e = .returned (.tuple #[.int .i64 r1, .int .i64 r2]) ∧ Drawn0 w w' := by
  have H : (some (a0, 1000000000000)) = some (r1, r2) := h
  clear h
  simp only [Option.some.injEq, Prod.mk.injEq] at H
  obtain ⟨rfl, rfl⟩ := H
  go_enter Try.func89, Try.ntmps89
  go_wp2
  go_ret2
  exact ⟨by first | rfl | (simp; done) | (simp [*]; done), by repeat (first | exact Drawn0.refl _ | apply Drawn0.step)⟩

end Go.Proofs.Ytioicmialbimfaa.S
end

section
namespace Go.Proofs.Ytioicmialbimfaa.S
open Go.RowKit Go.Proofs.YtioicmialbimfaaW.PrintWords Go.Proofs.YtioicmialbimfaaW.PrintLast Go.Proofs.YtioicmialbimfaaW.PrintMore
attribute [local go_sem] max2_int min2_int max_two min_two max_three min_three max_four min_four   -- for this text's walks alone
attribute [local go_sem] Go.Proofs.Ytioicmialbimfaa.XWalk.cell2
set_option linter.unusedVariables false
set_option linter.unusedSimpArgs false

/-! ### rate_over_rate_yield: function 36 -/
def rate_over_rate_yield.f (k : Nat) (a0 : Int) (a1 : Int) : Option (Int × Int) := (rate_May.f a1).bind fun t124 => (if t124 = true then ((rate_yield_terms.f a1).bind fun bt125 => ((wide_MulDiv.f k a0 bt125.1 bt125.2 1).bind fun bt127 => (some (bt127.1, bt127.2)))) else (some (0, 2)))
theorem rate_over_rate_yield.mono : ∀ a0 a1 k, LeO (rate_over_rate_yield.f k a0 a1) (rate_over_rate_yield.f (k + 1) a0 a1) := by
  intro a0 a1 k
  unfold rate_over_rate_yield.f
  repeat' first
      | (with_reducible exact wide_MulDiv.mono _ _ _ _ _)
      | (with_reducible exact LeO.refl _)
      | (with_reducible exact LeO.none _)
      | (with_reducible refine LeO.ite ?_ ?_)
      | (with_reducible refine LeO.bind ?_ (fun _ => ?_))
      | exact wide_MulDiv.mono _ _ _ _ _
      | exact LeO.none _
      | refine LeO.ite ?_ ?_
      | refine LeO.bind ?_ (fun _ => ?_)
set_option maxHeartbeats 8000000 in
set_option maxRecDepth 100000 in
theorem rate_over_rate_yield.calls (k : Nat) (a0 : Int) (a1 : Int) (r1 : Int) (r2 : Int) (w : World) (h : rate_over_rate_yield.f k a0 a1 = some (r1, r2)) :
    Calls Try.prog 36 #[.int .i64 a0, .int .i64 a1] w fun e w' => e = .returned (.tuple #[.int .i64 r1, .int .i64 r2]) ∧ Below w.heap.size w w' := by
  have HB := Aside0.mk (Below.refl w.heap.size w)
  have H : ((rate_May.f a1).bind fun t124 => (if t124 = true then ((rate_yield_terms.f a1).bind fun bt125 => ((wide_MulDiv.f k a0 bt125.1 bt125.2 1).bind fun bt127 => (some (bt127.1, bt127.2)))) else (some (0, 2)))) = some (r1, r2) := h
  clear h
  replace H := Option.bind_eq_some_iff.mp H
  obtain ⟨t124, A30, H⟩ := H
  replace H : (if t124 = true then ((rate_yield_terms.f a1).bind fun bt125 => ((wide_MulDiv.f k a0 bt125.1 bt125.2 1).bind fun bt127 => (some (bt127.1, bt127.2)))) else (some (0, 2))) = some (r1, r2) := H
  have A3 := Aside0.mk A30
  clear A30
  by_cases c4 : t124 = true
  · subst c4
    have H1 : ((rate_yield_terms.f a1).bind fun bt125 => ((wide_MulDiv.f k a0 bt125.1 bt125.2 1).bind fun bt127 => (some (bt127.1, bt127.2)))) = some (r1, r2) := by rw [if_pos rfl] at H; exact H
    clear H
    have H := H1
    clear H1
    replace H := Option.bind_eq_some_iff.mp H
    obtain ⟨⟨t125, t126⟩, A50, H⟩ := H
    replace H : ((wide_MulDiv.f k a0 t125 t126 1).bind fun bt127 => (some (bt127.1, bt127.2))) = some (r1, r2) := H
    have A5 := Aside0.mk A50
    clear A50
    replace H := Option.bind_eq_some_iff.mp H
    obtain ⟨⟨t127, t128⟩, A60, H⟩ := H
    replace H : (some (t127, t128)) = some (r1, r2) := H
    have A6 := Aside0.mk A60
    clear A60
    simp only [Option.some.injEq, Prod.mk.injEq] at H
    obtain ⟨rfl, rfl⟩ := H
    go_enter Try.func36, Try.ntmps36
    go_wp2_with (first | ((with_reducible refine gate_callee (f := 21) rfl ?_); refine goesL_ (some 9) rfl rfl Try.func21 (by kernel_rfl) rfl #[.int .i64 a1] rfl (by (try simp only [List.map_toArray, List.map_cons, List.map_nil]); first | done | rfl | (simp only [List.length_drop, List.length_take]; rfl)) ?_; (with_reducible refine (rate_May.calls a1 true _ A3.out).mono ?_); rintro e w' ⟨rfl, ⟨nd, rfl⟩⟩; refine ⟨_, rfl, ?_⟩) | (go_at_call 89; (with_reducible refine (rate_yield_terms.calls a1 t125 t126 _ A5.out).mono ?_); rintro e w' ⟨rfl, ⟨nd, rfl⟩⟩) | ((with_reducible refine gate_callee (f := 40) rfl ?_); refine goesL_ (some 20) rfl rfl Try.func40 (by kernel_rfl) rfl #[.int .i64 a0, .int .i64 t125, .int .i64 t126, .int .i64 1] rfl (by (try simp only [List.map_toArray, List.map_cons, List.map_nil]); first | done | rfl | (simp only [List.length_drop, List.length_take]; rfl)) ?_; (with_reducible refine (wide_MulDiv.calls k a0 t125 t126 1 t127 t128 _ A6.out).mono ?_); rintro e w7 ⟨rfl, hb⟩; refine ⟨_, rfl, ?_⟩; have n0_ := Aside0.mk (below_step (by repeat (first | (with_reducible first | exact HB.out | apply below_alloc | apply pw_below_drewN | apply below_drew1) | exact HB.out)) hb); clear HB; have HB := n0_; clear n0_; (try clear hb); (try clear hb2); (try clear hk); (try clear hi)))
    go_ret2
    exact ⟨by first | rfl | (simp [errW_none, errW_some] <;> rfl) | (simp [*, errW_none, errW_some] <;> rfl), by repeat (first | (with_reducible first | exact HB.out | apply below_alloc | apply pw_below_drewN | apply below_drew1) | exact HB.out)⟩
  · replace c4 := Bool.eq_false_iff.mpr c4
    subst c4
    have H1 : (some (0, 2)) = some (r1, r2) := by rw [if_neg (show ¬ (false = true) by decide)] at H; exact H
    clear H
    have H := H1
    clear H1
    simp only [Option.some.injEq, Prod.mk.injEq] at H
    obtain ⟨rfl, rfl⟩ := H
    go_enter Try.func36, Try.ntmps36
    go_wp2_with (first | ((with_reducible refine gate_callee (f := 21) rfl ?_); refine goesL_ (some 9) rfl rfl Try.func21 (by kernel_rfl) rfl #[.int .i64 a1] rfl (by (try simp only [List.map_toArray, List.map_cons, List.map_nil]); first | done | rfl | (simp only [List.length_drop, List.length_take]; rfl)) ?_; (with_reducible refine (rate_May.calls a1 false _ A3.out).mono ?_); rintro e w' ⟨rfl, ⟨nd, rfl⟩⟩; refine ⟨_, rfl, ?_⟩))
    go_ret2
    exact ⟨by first | rfl | (simp [errW_none, errW_some] <;> rfl) | (simp [*, errW_none, errW_some] <;> rfl), by repeat (first | (with_reducible first | exact HB.out | apply below_alloc | apply pw_below_drewN | apply below_drew1) | exact HB.out)⟩

end Go.Proofs.Ytioicmialbimfaa.S
end

section
namespace Go.Proofs.Ytioicmialbimfaa.S
open Go.RowKit Go.Proofs.YtioicmialbimfaaW.PrintWords Go.Proofs.YtioicmialbimfaaW.PrintLast Go.Proofs.YtioicmialbimfaaW.PrintMore
attribute [local go_sem] max2_int min2_int max_two min_two max_three min_three max_four min_four   -- for this text's walks alone
attribute [local go_sem] Go.Proofs.Ytioicmialbimfaa.XWalk.cell2
set_option linter.unusedVariables false
set_option linter.unusedSimpArgs false

/-! ### rate_Interest: function 15 -/
def rate_Interest.f (k : Nat) (a0 : Int) (a1 : Int) : Option (Int × Int) := (rate_over_rate_yield.f k a0 a1).bind fun bt129 => (some (bt129.1, bt129.2))
theorem rate_Interest.mono : ∀ a0 a1 k, LeO (rate_Interest.f k a0 a1) (rate_Interest.f (k + 1) a0 a1) := by
  intro a0 a1 k
  unfold rate_Interest.f
  repeat' first
      | (with_reducible exact rate_over_rate_yield.mono _ _ _)
      | (with_reducible exact LeO.refl _)
      | (with_reducible exact LeO.none _)
      | (with_reducible refine LeO.ite ?_ ?_)
      | (with_reducible refine LeO.bind ?_ (fun _ => ?_))
      | exact rate_over_rate_yield.mono _ _ _
      | exact LeO.none _
      | refine LeO.ite ?_ ?_
      | refine LeO.bind ?_ (fun _ => ?_)
set_option maxHeartbeats 8000000 in
set_option maxRecDepth 100000 in
theorem rate_Interest.calls (k : Nat) (a0 : Int) (a1 : Int) (r1 : Int) (r2 : Int) (w : World) (h : rate_Interest.f k a0 a1 = some (r1, r2)) :
    Calls Try.prog 15 #[.int .i64 a0, .int .i64 a1] w fun e w' => e = .returned (.tuple #[.int .i64 r1, .int .i64 r2]) ∧ Below w.heap.size w w' := by
  have HB := Aside0.mk (Below.refl w.heap.size w)
  have H : ((rate_over_rate_yield.f k a0 a1).bind fun bt129 => (some (bt129.1, bt129.2))) = some (r1, r2) := h
  clear h
  replace H := Option.bind_eq_some_iff.mp H
  obtain ⟨⟨t129, t130⟩, A30, H⟩ := H
  replace H : (some (t129, t130)) = some (r1, r2) := H
  have A3 := Aside0.mk A30
  clear A30
  simp only [Option.some.injEq, Prod.mk.injEq] at H
  obtain ⟨rfl, rfl⟩ := H
  go_enter Try.func15, Try.ntmps15
  go_wp2_with (first | ((with_reducible refine gate_callee (f := 36) rfl ?_); refine goesL_ (some 8) rfl rfl Try.func36 (by kernel_rfl) rfl #[.int .i64 a0, .int .i64 a1] rfl (by (try simp only [List.map_toArray, List.map_cons, List.map_nil]); first | done | rfl | (simp only [List.length_drop, List.length_take]; rfl)) ?_; (with_reducible refine (rate_over_rate_yield.calls k a0 a1 t129 t130 _ A3.out).mono ?_); rintro e w4 ⟨rfl, hb⟩; refine ⟨_, rfl, ?_⟩; have n0_ := Aside0.mk (below_step (by repeat (first | (with_reducible first | exact HB.out | apply below_alloc | apply pw_below_drewN | apply below_drew1) | exact HB.out)) hb); clear HB; have HB := n0_; clear n0_; (try clear hb); (try clear hb2); (try clear hk); (try clear hi)))
  go_ret2
  exact ⟨by first | rfl | (simp [errW_none, errW_some] <;> rfl) | (simp [*, errW_none, errW_some] <;> rfl), by repeat (first | (with_reducible first | exact HB.out | apply below_alloc | apply pw_below_drewN | apply below_drew1) | exact HB.out)⟩

end Go.Proofs.Ytioicmialbimfaa.S
end

section
namespace Go.Proofs.Ytioicmialbimfaa.S
open Go.RowKit Go.Proofs.YtioicmialbimfaaW.PrintWords Go.Proofs.YtioicmialbimfaaW.PrintLast Go.Proofs.YtioicmialbimfaaW.PrintMore
attribute [local go_sem] max2_int min2_int max_two min_two max_three min_three max_four min_four   -- for this text's walks alone
attribute [local go_sem] Go.Proofs.Ytioicmialbimfaa.XWalk.cell2
set_option linter.unusedVariables false
set_option linter.unusedSimpArgs false

/-! ### rate_Part: function 26 -/
def rate_Part.f (k : Nat) (a0 : Int) (a1 : Int) (a2 : Int) : Option (Int × Int) := if a1 < 0 then (some (0, 2)) else (if a2 ≤ 0 then (some (0, 2)) else ((wide_MulDiv.f k a0 a1 a2 1).bind fun bt248 => (some (bt248.1, bt248.2))))
theorem rate_Part.mono : ∀ a0 a1 a2 k, LeO (rate_Part.f k a0 a1 a2) (rate_Part.f (k + 1) a0 a1 a2) := by
  intro a0 a1 a2 k
  unfold rate_Part.f
  repeat' first
      | (with_reducible exact wide_MulDiv.mono _ _ _ _ _)
      | (with_reducible exact LeO.refl _)
      | (with_reducible exact LeO.none _)
      | (with_reducible refine LeO.ite ?_ ?_)
      | (with_reducible refine LeO.bind ?_ (fun _ => ?_))
      | exact wide_MulDiv.mono _ _ _ _ _
      | exact LeO.none _
      | refine LeO.ite ?_ ?_
      | refine LeO.bind ?_ (fun _ => ?_)
set_option maxHeartbeats 8000000 in
set_option maxRecDepth 100000 in
theorem rate_Part.calls (k : Nat) (a0 : Int) (a1 : Int) (a2 : Int) (r1 : Int) (r2 : Int) (w : World) (h : rate_Part.f k a0 a1 a2 = some (r1, r2)) :
    Calls Try.prog 26 #[.int .i64 a0, .int .i64 a1, .int .i64 a2] w fun e w' => e = .returned (.tuple #[.int .i64 r1, .int .i64 r2]) ∧ Below w.heap.size w w' := by
  have HB := Aside0.mk (Below.refl w.heap.size w)
  have H : (if a1 < 0 then (some (0, 2)) else (if a2 ≤ 0 then (some (0, 2)) else ((wide_MulDiv.f k a0 a1 a2 1).bind fun bt248 => (some (bt248.1, bt248.2))))) = some (r1, r2) := h
  clear h
  by_cases c4 : a1 < 0
  · rw [if_pos c4] at H
    have c4b0 : decide (a1 < 0) = true := decide_eq_true c4
    clear c4
    simp only [Option.some.injEq, Prod.mk.injEq] at H
    obtain ⟨rfl, rfl⟩ := H
    go_enter Try.func26, Try.ntmps26
    go_wp2
    go_ret2
    exact ⟨by first | rfl | (simp [errW_none, errW_some] <;> rfl) | (simp [*, errW_none, errW_some] <;> rfl), by repeat (first | (with_reducible first | exact HB.out | apply below_alloc | apply pw_below_drewN | apply below_drew1) | exact HB.out)⟩
  · rw [if_neg c4] at H
    have c4b0 : decide (a1 < 0) = false := decide_eq_false c4
    clear c4
    by_cases c5 : a2 ≤ 0
    · rw [if_pos c5] at H
      have c5b0 : decide (a2 ≤ 0) = true := decide_eq_true c5
      clear c5
      simp only [Option.some.injEq, Prod.mk.injEq] at H
      obtain ⟨rfl, rfl⟩ := H
      go_enter Try.func26, Try.ntmps26
      go_wp2
      go_ret2
      exact ⟨by first | rfl | (simp [errW_none, errW_some] <;> rfl) | (simp [*, errW_none, errW_some] <;> rfl), by repeat (first | (with_reducible first | exact HB.out | apply below_alloc | apply pw_below_drewN | apply below_drew1) | exact HB.out)⟩
    · rw [if_neg c5] at H
      have c5b0 : decide (a2 ≤ 0) = false := decide_eq_false c5
      clear c5
      replace H := Option.bind_eq_some_iff.mp H
      obtain ⟨⟨t248, t249⟩, A60, H⟩ := H
      replace H : (some (t248, t249)) = some (r1, r2) := H
      have A6 := Aside0.mk A60
      clear A60
      simp only [Option.some.injEq, Prod.mk.injEq] at H
      obtain ⟨rfl, rfl⟩ := H
      go_enter Try.func26, Try.ntmps26
      go_wp2_with (first | ((with_reducible refine gate_callee (f := 40) rfl ?_); refine goesL_ (some 17) rfl rfl Try.func40 (by kernel_rfl) rfl #[.int .i64 a0, .int .i64 a1, .int .i64 a2, .int .i64 1] rfl (by (try simp only [List.map_toArray, List.map_cons, List.map_nil]); first | done | rfl | (simp only [List.length_drop, List.length_take]; rfl)) ?_; (with_reducible refine (wide_MulDiv.calls k a0 a1 a2 1 t248 t249 _ A6.out).mono ?_); rintro e w7 ⟨rfl, hb⟩; refine ⟨_, rfl, ?_⟩; have n0_ := Aside0.mk (below_step (by repeat (first | (with_reducible first | exact HB.out | apply below_alloc | apply pw_below_drewN | apply below_drew1) | exact HB.out)) hb); clear HB; have HB := n0_; clear n0_; (try clear hb); (try clear hb2); (try clear hk); (try clear hi)))
      go_ret2
      exact ⟨by first | rfl | (simp [errW_none, errW_some] <;> rfl) | (simp [*, errW_none, errW_some] <;> rfl), by repeat (first | (with_reducible first | exact HB.out | apply below_alloc | apply pw_below_drewN | apply below_drew1) | exact HB.out)⟩

end Go.Proofs.Ytioicmialbimfaa.S
end

section
namespace Go.Proofs.Ytioicmialbimfaa.S
open Go.RowKit Go.Proofs.YtioicmialbimfaaW.PrintWords Go.Proofs.YtioicmialbimfaaW.PrintLast Go.Proofs.YtioicmialbimfaaW.PrintMore
attribute [local go_sem] max2_int min2_int max_two min_two max_three min_three max_four min_four   -- for this text's walks alone
attribute [local go_sem] Go.Proofs.Ytioicmialbimfaa.XWalk.cell2
set_option linter.unusedVariables false
set_option linter.unusedSimpArgs false

/-! ### count_Days: function 29 -/
def count_Days.f (k : Nat) (a0 a1 a2 : Int) : Option (Int × Int) :=
  if count_Basis.v a2 = 0 then some (0, 2) else if mn a0 a1 < 1 then some (0, 5) else if 3652059 < mx a0 a1 then some (0, 5) else
  if a2 = 1 then (count_flat.f k a0 a1).bind fun n => some (n, 0) else (count_real.f a0 a1).bind fun n => some (n, 0)
theorem count_Days.mono : ∀ a0 a1 a2 k, LeO (count_Days.f k a0 a1 a2) (count_Days.f (k + 1) a0 a1 a2) := by
  intro a0 a1 a2 k
  unfold count_Days.f
  exact LeO.ite (LeO.refl _) (LeO.ite (LeO.refl _) (LeO.ite (LeO.refl _) (LeO.ite (LeO.bind (count_flat.mono _ _ _) (fun _ => LeO.refl _)) (LeO.refl _))))
theorem count_Days.row (a : Int) : (count_Basis.v a = 0 ∧ count_find.fn a = .nilFunc) ∨ (count_Basis.v a ≠ 0 ∧ a = 1 ∧ count_find.fn a = .func (.func 51) #[] #[]) ∨ (count_Basis.v a ≠ 0 ∧ a ≠ 1 ∧ count_find.fn a = .func (.func 52) #[] #[]) := by
  unfold count_Basis.v count_find.fn
  by_cases h1 : a = 1
  · subst h1
    exact .inr (.inl ⟨by decide, rfl, rfl⟩)
  · by_cases h2 : a = 2 ∨ a = 3
    · refine .inr (.inr ⟨?_, h1, by rw [if_neg h1, if_pos h2]⟩)
      rcases h2 with rfl | rfl <;> decide
    · exact .inl ⟨by rw [if_neg (by omega), if_neg (by omega)], by rw [if_neg h1, if_neg h2]⟩
set_option maxHeartbeats 8000000 in
theorem count_Days.calls (k : Nat) (a0 a1 a2 r1 r2 : Int) (w : World) (h : count_Days.f k a0 a1 a2 = some (r1, r2)) : Calls Try.prog 29 #[.int .i64 a0, .int .i64 a1, .int .i64 a2] w fun e w' => e = .returned (.tuple #[.int .i64 r1, .int .i64 r2]) ∧ Below w.heap.size w w' := by
  unfold count_Days.f at h
  obtain ⟨g, hg⟩ : ∃ g, g = w.heap.size := ⟨_, rfl⟩
  have WY : Aside0 (Calls Try.prog 43 #[] w fun e w' => e = .returned (.slice (some ⟨g, 0, none⟩) 4 4) ∧ w'.heap[g]? = some (.cells count_ways.cells 66 (0, 0)) ∧ Below w.heap.size w w') := ⟨by rw [hg]; exact count_ways.calls w⟩
  have FD : Aside0 (∀ W : World, W.heap[g]? = some (.cells count_ways.cells 66 (0, 0)) → Calls Try.prog 42 #[.slice (some ⟨g, 0, none⟩) 4 4, .int .i64 a2] W fun e w' => e = .returned (.agg #[.int .i64 (count_Basis.v a2), count_find.fn a2]) ∧ Below W.heap.size W w') := ⟨fun W h => count_find.calls a2 g W h⟩
  clear hg
  rcases count_Days.row a2 with ⟨c1, u⟩ | ⟨c1, ca, u⟩ | ⟨c1, ca, u⟩
  · rw [if_pos c1] at h
    obtain ⟨rfl, rfl⟩ := Prod.mk.inj (Option.some.inj h)
    rw [c1, u] at FD
    clear c1 h u
    go_enter Try.func29, Try.ntmps29
    go_wp2_with (first | (go_at_call 43; (with_reducible refine WY.out.mono ?_); rintro e w1 ⟨rfl, hg1, h1⟩; replace hg1 := Aside0.mk hg1) | (go_at_call 42; (with_reducible refine (FD.out _ hg1.out).mono ?_); rintro e w2 ⟨rfl, h2⟩))
    go_ret2
    exact ⟨rfl, below_alloc (below_then h1 h1.size h2) _⟩
  · rw [if_neg c1] at h
    rw [u] at FD
    obtain ⟨v, hv⟩ : ∃ v, v = count_Basis.v a2 := ⟨_, rfl⟩
    rw [← hv] at FD c1
    have q1 : (v == 0) = false := beq_eq_false_iff_ne.mpr c1
    clear hv c1 u
    by_cases c2 : mn a0 a1 < 1
    · rw [if_pos c2] at h
      obtain ⟨rfl, rfl⟩ := Prod.mk.inj (Option.some.inj h)
      clear h ca
      rcases (show a0 < a1 ∧ a0 < 1 ∨ (a0 = a1 ∧ a0 < 1) ∨ a1 < a0 ∧ a1 < 1 by unfold mn at c2; omega) with ⟨d1, d2⟩ | ⟨d1, d2⟩ | ⟨d1, d2⟩
      all_goals
        clear c2
        try subst d1
        go_enter Try.func29, Try.ntmps29
        go_wp2_with (first | (go_at_call 43; (with_reducible refine WY.out.mono ?_); rintro e w1 ⟨rfl, hg1, h1⟩; replace hg1 := Aside0.mk hg1) | (go_at_call 42; (with_reducible refine (FD.out _ hg1.out).mono ?_); rintro e w2 ⟨rfl, h2⟩))
        go_ret2
        exact ⟨rfl, below_alloc (below_then h1 h1.size h2) _⟩
    · rw [if_neg c2] at h
      by_cases c3 : 3652059 < mx a0 a1
      · rw [if_pos c3] at h
        obtain ⟨rfl, rfl⟩ := Prod.mk.inj (Option.some.inj h)
        clear h ca
        rcases (show (a0 < a1 ∧ 1 ≤ a0 ∧ 3652059 < a1) ∨ (a0 = a1 ∧ 1 ≤ a0 ∧ 3652059 < a0) ∨ a1 < a0 ∧ 1 ≤ a1 ∧ 3652059 < a0 by unfold mn at c2; unfold mx at c3; omega) with ⟨d1, d2, d3⟩ | ⟨d1, d2, d3⟩ | ⟨d1, d2, d3⟩
        all_goals
          clear c2 c3
          try subst d1
          go_enter Try.func29, Try.ntmps29
          go_wp2_with (first | (go_at_call 43; (with_reducible refine WY.out.mono ?_); rintro e w1 ⟨rfl, hg1, h1⟩; replace hg1 := Aside0.mk hg1) | (go_at_call 42; (with_reducible refine (FD.out _ hg1.out).mono ?_); rintro e w2 ⟨rfl, h2⟩))
          go_ret2
          exact ⟨rfl, below_alloc (below_then h1 h1.size h2) _⟩
      · rw [if_neg c3, if_pos ca] at h
        obtain ⟨n, hn, h⟩ := Option.bind_eq_some_iff.mp h
        obtain ⟨rfl, rfl⟩ := Prod.mk.inj (Option.some.inj h)
        have HN := Aside0.mk hn
        clear h ca hn
        rcases (show (a0 < a1 ∧ 1 ≤ a0 ∧ a1 ≤ 3652059) ∨ (a0 = a1 ∧ 1 ≤ a0 ∧ a0 ≤ 3652059) ∨ a1 < a0 ∧ 1 ≤ a1 ∧ a0 ≤ 3652059 by unfold mn at c2; unfold mx at c3; omega) with ⟨d1, d2, d3⟩ | ⟨d1, d2, d3⟩ | ⟨d1, d2, d3⟩
        all_goals
          clear c2 c3
          try subst d1
          go_enter Try.func29, Try.ntmps29
          go_wp2_with (first | (go_at_call 43; (with_reducible refine WY.out.mono ?_); rintro e w1 ⟨rfl, hg1, h1⟩; replace hg1 := Aside0.mk hg1) | (go_at_call 42; (with_reducible refine (FD.out _ hg1.out).mono ?_); rintro e w2 ⟨rfl, h2⟩) | (go_at_call 51; (with_reducible refine (count_flat.calls k _ _ n _ HN.out).mono ?_); rintro e w3 ⟨rfl, h3⟩))
          go_ret2
          exact ⟨rfl, below_then (below_alloc (below_then h1 h1.size h2) _) (below_alloc (below_then h1 h1.size h2) _).size h3⟩
  · rw [if_neg c1] at h
    rw [u] at FD
    obtain ⟨v, hv⟩ : ∃ v, v = count_Basis.v a2 := ⟨_, rfl⟩
    rw [← hv] at FD c1
    have q1 : (v == 0) = false := beq_eq_false_iff_ne.mpr c1
    clear hv c1 u
    by_cases c2 : mn a0 a1 < 1
    · rw [if_pos c2] at h
      obtain ⟨rfl, rfl⟩ := Prod.mk.inj (Option.some.inj h)
      clear h ca
      rcases (show a0 < a1 ∧ a0 < 1 ∨ (a0 = a1 ∧ a0 < 1) ∨ a1 < a0 ∧ a1 < 1 by unfold mn at c2; omega) with ⟨d1, d2⟩ | ⟨d1, d2⟩ | ⟨d1, d2⟩
      all_goals
        clear c2
        try subst d1
        go_enter Try.func29, Try.ntmps29
        go_wp2_with (first | (go_at_call 43; (with_reducible refine WY.out.mono ?_); rintro e w1 ⟨rfl, hg1, h1⟩; replace hg1 := Aside0.mk hg1) | (go_at_call 42; (with_reducible refine (FD.out _ hg1.out).mono ?_); rintro e w2 ⟨rfl, h2⟩))
        go_ret2
        exact ⟨rfl, below_alloc (below_then h1 h1.size h2) _⟩
    · rw [if_neg c2] at h
      by_cases c3 : 3652059 < mx a0 a1
      · rw [if_pos c3] at h
        obtain ⟨rfl, rfl⟩ := Prod.mk.inj (Option.some.inj h)
        clear h ca
        rcases (show (a0 < a1 ∧ 1 ≤ a0 ∧ 3652059 < a1) ∨ (a0 = a1 ∧ 1 ≤ a0 ∧ 3652059 < a0) ∨ a1 < a0 ∧ 1 ≤ a1 ∧ 3652059 < a0 by unfold mn at c2; unfold mx at c3; omega) with ⟨d1, d2, d3⟩ | ⟨d1, d2, d3⟩ | ⟨d1, d2, d3⟩
        all_goals
          clear c2 c3
          try subst d1
          go_enter Try.func29, Try.ntmps29
          go_wp2_with (first | (go_at_call 43; (with_reducible refine WY.out.mono ?_); rintro e w1 ⟨rfl, hg1, h1⟩; replace hg1 := Aside0.mk hg1) | (go_at_call 42; (with_reducible refine (FD.out _ hg1.out).mono ?_); rintro e w2 ⟨rfl, h2⟩))
          go_ret2
          exact ⟨rfl, below_alloc (below_then h1 h1.size h2) _⟩
      · rw [if_neg c3, if_neg ca] at h
        obtain ⟨n, hn, h⟩ := Option.bind_eq_some_iff.mp h
        obtain ⟨rfl, rfl⟩ := Prod.mk.inj (Option.some.inj h)
        have HN := Aside0.mk hn
        clear h ca hn
        rcases (show (a0 < a1 ∧ 1 ≤ a0 ∧ a1 ≤ 3652059) ∨ (a0 = a1 ∧ 1 ≤ a0 ∧ a0 ≤ 3652059) ∨ a1 < a0 ∧ 1 ≤ a1 ∧ a0 ≤ 3652059 by unfold mn at c2; unfold mx at c3; omega) with ⟨d1, d2, d3⟩ | ⟨d1, d2, d3⟩ | ⟨d1, d2, d3⟩
        all_goals
          clear c2 c3
          try subst d1
          go_enter Try.func29, Try.ntmps29
          go_wp2_with (first | (go_at_call 43; (with_reducible refine WY.out.mono ?_); rintro e w1 ⟨rfl, hg1, h1⟩; replace hg1 := Aside0.mk hg1) | (go_at_call 42; (with_reducible refine (FD.out _ hg1.out).mono ?_); rintro e w2 ⟨rfl, h2⟩) | (go_at_call 52; (with_reducible refine (count_real.calls _ _ n _ HN.out).mono ?_); rintro e w3 ⟨rfl, h3⟩))
          go_ret2
          exact ⟨rfl, below_then (below_alloc (below_then h1 h1.size h2) _) (below_alloc (below_then h1 h1.size h2) _).size h3.below⟩


end Go.Proofs.Ytioicmialbimfaa.S
end

section
namespace Go.Proofs.Ytioicmialbimfaa.S
open Go.RowKit Go.Proofs.YtioicmialbimfaaW.PrintWords Go.Proofs.YtioicmialbimfaaW.PrintLast Go.Proofs.YtioicmialbimfaaW.PrintMore
attribute [local go_sem] max2_int min2_int max_two min_two max_three min_three max_four min_four   -- for this text's walks alone
attribute [local go_sem] Go.Proofs.Ytioicmialbimfaa.XWalk.cell2
set_option linter.unusedVariables false
set_option linter.unusedSimpArgs false

/-! ### count_Accrue: function 31 -/
def count_Accrue.f (k : Nat) (a0 : Int) (a1 : Int) (a2 : Int) (a3 : Int) (a4 : Int) : Option (Int × Int) := (count_Days.f k a2 a3 a4).bind fun bt286 => (if bt286.2 = 0 then (if a3 < a2 then (some (0, 2)) else ((rate_May.f a1).bind fun t288 => (if t288 = true then ((count_Basis.f a4).bind fun t289 => ((rate_Part.f k a1 bt286.1 t289).bind fun bt290 => (if bt290.2 = 0 then ((rate_Interest.f k a0 bt290.1).bind fun bt292 => (some (bt292.1, bt292.2))) else (some (0, bt290.2))))) else (some (0, 2))))) else (some (0, bt286.2)))
theorem count_Accrue.mono : ∀ a0 a1 a2 a3 a4 k, LeO (count_Accrue.f k a0 a1 a2 a3 a4) (count_Accrue.f (k + 1) a0 a1 a2 a3 a4) := by
  intro a0 a1 a2 a3 a4 k
  unfold count_Accrue.f
  repeat' first
      | (with_reducible exact count_Days.mono _ _ _ _)
      | (with_reducible exact rate_Interest.mono _ _ _)
      | (with_reducible exact rate_Part.mono _ _ _ _)
      | (with_reducible exact LeO.refl _)
      | (with_reducible exact LeO.none _)
      | (with_reducible refine LeO.ite ?_ ?_)
      | (with_reducible refine LeO.bind ?_ (fun _ => ?_))
      | exact count_Days.mono _ _ _ _
      | exact rate_Interest.mono _ _ _
      | exact rate_Part.mono _ _ _ _
      | exact LeO.none _
      | refine LeO.ite ?_ ?_
      | refine LeO.bind ?_ (fun _ => ?_)
set_option maxHeartbeats 8000000 in
set_option maxRecDepth 100000 in
theorem count_Accrue.calls (k : Nat) (a0 : Int) (a1 : Int) (a2 : Int) (a3 : Int) (a4 : Int) (r1 : Int) (r2 : Int) (w : World) (h : count_Accrue.f k a0 a1 a2 a3 a4 = some (r1, r2)) :
    Calls Try.prog 31 #[.int .i64 a0, .int .i64 a1, .int .i64 a2, .int .i64 a3, .int .i64 a4] w fun e w' => e = .returned (.tuple #[.int .i64 r1, .int .i64 r2]) ∧ Below w.heap.size w w' := by
  have HB := Aside0.mk (Below.refl w.heap.size w)
  have H : ((count_Days.f k a2 a3 a4).bind fun bt286 => (if bt286.2 = 0 then (if a3 < a2 then (some (0, 2)) else ((rate_May.f a1).bind fun t288 => (if t288 = true then ((count_Basis.f a4).bind fun t289 => ((rate_Part.f k a1 bt286.1 t289).bind fun bt290 => (if bt290.2 = 0 then ((rate_Interest.f k a0 bt290.1).bind fun bt292 => (some (bt292.1, bt292.2))) else (some (0, bt290.2))))) else (some (0, 2))))) else (some (0, bt286.2)))) = some (r1, r2) := h
  clear h
  replace H := Option.bind_eq_some_iff.mp H
  obtain ⟨⟨t286, t287⟩, A60, H⟩ := H
  replace H : (if t287 = 0 then (if a3 < a2 then (some (0, 2)) else ((rate_May.f a1).bind fun t288 => (if t288 = true then ((count_Basis.f a4).bind fun t289 => ((rate_Part.f k a1 t286 t289).bind fun bt290 => (if bt290.2 = 0 then ((rate_Interest.f k a0 bt290.1).bind fun bt292 => (some (bt292.1, bt292.2))) else (some (0, bt290.2))))) else (some (0, 2))))) else (some (0, t287))) = some (r1, r2) := H
  have A6 := Aside0.mk A60
  clear A60
  by_cases c7 : t287 = 0
  · rw [if_pos c7] at H
    have c7b0 : (t287 == 0) = true := beq_iff_eq.mpr c7
    have c7b1 : (t287 != 0) = false := bne_eq_false_iff_eq.mpr c7
    clear c7
    have HC8 := Aside0.mk H
    clear H
    go_enter Try.func31, Try.ntmps31
    go_upto_region 4 with (first | ((with_reducible refine gate_callee (f := 29) rfl ?_); refine goesL_ (some 19) rfl rfl Try.func29 (by kernel_rfl) rfl #[.int .i64 a2, .int .i64 a3, .int .i64 a4] rfl (by (try simp only [List.map_toArray, List.map_cons, List.map_nil]); first | done | rfl | (simp only [List.length_drop, List.length_take]; rfl)) ?_; (with_reducible refine (count_Days.calls k a2 a3 a4 t286 t287 _ A6.out).mono ?_); rintro e w9 ⟨rfl, hb⟩; refine ⟨_, rfl, ?_⟩; have n0_ := Aside0.mk (below_step (by repeat (first | (with_reducible first | exact HB.out | apply below_alloc | apply pw_below_drewN | apply below_drew1) | exact HB.out)) hb); clear HB; have HB := n0_; clear n0_; (try clear hb); (try clear hb2); (try clear hk); (try clear hi)))
    have H := HC8.out
    clear HC8
    by_cases c10 : a3 < a2
    · rw [if_pos c10] at H
      have c10b0 : decide (a3 < a2) = true := decide_eq_true c10
      clear c10
      simp only [Option.some.injEq, Prod.mk.injEq] at H
      obtain ⟨rfl, rfl⟩ := H
      go_wp2
      go_ret2
      exact ⟨by first | rfl | (simp [errW_none, errW_some] <;> rfl) | (simp [*, errW_none, errW_some] <;> rfl), by repeat (first | (with_reducible first | exact HB.out | apply below_alloc | apply pw_below_drewN | apply below_drew1) | exact HB.out)⟩
    · rw [if_neg c10] at H
      have c10b0 : decide (a3 < a2) = false := decide_eq_false c10
      clear c10
      replace H := Option.bind_eq_some_iff.mp H
      obtain ⟨t288, A110, H⟩ := H
      replace H : (if t288 = true then ((count_Basis.f a4).bind fun t289 => ((rate_Part.f k a1 t286 t289).bind fun bt290 => (if bt290.2 = 0 then ((rate_Interest.f k a0 bt290.1).bind fun bt292 => (some (bt292.1, bt292.2))) else (some (0, bt290.2))))) else (some (0, 2))) = some (r1, r2) := H
      have A11 := Aside0.mk A110
      clear A110
      by_cases c12 : t288 = true
      · subst c12
        have H1 : ((count_Basis.f a4).bind fun t289 => ((rate_Part.f k a1 t286 t289).bind fun bt290 => (if bt290.2 = 0 then ((rate_Interest.f k a0 bt290.1).bind fun bt292 => (some (bt292.1, bt292.2))) else (some (0, bt290.2))))) = some (r1, r2) := by rw [if_pos rfl] at H; exact H
        clear H
        have H := H1
        clear H1
        replace H := Option.bind_eq_some_iff.mp H
        obtain ⟨t289, A130, H⟩ := H
        replace H : ((rate_Part.f k a1 t286 t289).bind fun bt290 => (if bt290.2 = 0 then ((rate_Interest.f k a0 bt290.1).bind fun bt292 => (some (bt292.1, bt292.2))) else (some (0, bt290.2)))) = some (r1, r2) := H
        have A13 := Aside0.mk A130
        clear A130
        replace H := Option.bind_eq_some_iff.mp H
        obtain ⟨⟨t290, t291⟩, A140, H⟩ := H
        replace H : (if t291 = 0 then ((rate_Interest.f k a0 t290).bind fun bt292 => (some (bt292.1, bt292.2))) else (some (0, t291))) = some (r1, r2) := H
        have A14 := Aside0.mk A140
        clear A140
        by_cases c15 : t291 = 0
        · rw [if_pos c15] at H
          have c15b0 : (t291 == 0) = true := beq_iff_eq.mpr c15
          have c15b1 : (t291 != 0) = false := bne_eq_false_iff_eq.mpr c15
          clear c15
          replace H := Option.bind_eq_some_iff.mp H
          obtain ⟨⟨t292, t293⟩, A160, H⟩ := H
          replace H : (some (t292, t293)) = some (r1, r2) := H
          have A16 := Aside0.mk A160
          clear A160
          simp only [Option.some.injEq, Prod.mk.injEq] at H
          obtain ⟨rfl, rfl⟩ := H
          go_wp2_with (first | (go_at_call 21; (with_reducible refine (rate_May.calls a1 true _ A11.out).mono ?_); rintro e w' ⟨rfl, ⟨nd, rfl⟩⟩) | ((with_reducible refine gate_callee (f := 33) rfl ?_); refine goesL_ (some 39) rfl rfl Try.func33 (by kernel_rfl) rfl #[.int .i64 a4] rfl (by (try simp only [List.map_toArray, List.map_cons, List.map_nil]); first | done | rfl | (simp only [List.length_drop, List.length_take]; rfl)) ?_; (with_reducible refine (count_Basis.calls a4 t289 _ A13.out).mono ?_); rintro e w17 ⟨rfl, hb⟩; refine ⟨_, rfl, ?_⟩; have n0_ := Aside0.mk (below_step (by repeat (first | (with_reducible first | exact HB.out | apply below_alloc | apply pw_below_drewN | apply below_drew1) | exact HB.out)) hb); clear HB; have HB := n0_; clear n0_; (try clear hb); (try clear hb2); (try clear hk); (try clear hi)) | ((with_reducible refine gate_callee (f := 26) rfl ?_); refine goesL_ (some 40) rfl rfl Try.func26 (by kernel_rfl) rfl #[.int .i64 a1, .int .i64 t286, .int .i64 t289] rfl (by (try simp only [List.map_toArray, List.map_cons, List.map_nil]); first | done | rfl | (simp only [List.length_drop, List.length_take]; rfl)) ?_; (with_reducible refine (rate_Part.calls k a1 t286 t289 t290 t291 _ A14.out).mono ?_); rintro e w18 ⟨rfl, hb⟩; refine ⟨_, rfl, ?_⟩; have n0_ := Aside0.mk (below_step (by repeat (first | (with_reducible first | exact HB.out | apply below_alloc | apply pw_below_drewN | apply below_drew1) | exact HB.out)) hb); clear HB; have HB := n0_; clear n0_; (try clear hb); (try clear hb2); (try clear hk); (try clear hi)) | ((with_reducible refine gate_callee (f := 15) rfl ?_); refine goesL_ (some 48) rfl rfl Try.func15 (by kernel_rfl) rfl #[.int .i64 a0, .int .i64 t290] rfl (by (try simp only [List.map_toArray, List.map_cons, List.map_nil]); first | done | rfl | (simp only [List.length_drop, List.length_take]; rfl)) ?_; (with_reducible refine (rate_Interest.calls k a0 t290 t292 t293 _ A16.out).mono ?_); rintro e w19 ⟨rfl, hb⟩; refine ⟨_, rfl, ?_⟩; have n0_ := Aside0.mk (below_step (by repeat (first | (with_reducible first | exact HB.out | apply below_alloc | apply pw_below_drewN | apply below_drew1) | exact HB.out)) hb); clear HB; have HB := n0_; clear n0_; (try clear hb); (try clear hb2); (try clear hk); (try clear hi)))
          go_ret2
          exact ⟨by first | rfl | (simp [errW_none, errW_some] <;> rfl) | (simp [*, errW_none, errW_some] <;> rfl), by repeat (first | (with_reducible first | exact HB.out | apply below_alloc | apply pw_below_drewN | apply below_drew1) | exact HB.out)⟩
        · rw [if_neg c15] at H
          have c15b0 : (t291 == 0) = false := beq_eq_false_iff_ne.mpr c15
          have c15b1 : (t291 != 0) = true := bne_iff_ne.mpr c15
          simp only [Option.some.injEq, Prod.mk.injEq] at H
          obtain ⟨rfl, rfl⟩ := H
          go_wp2_with (first | (go_at_call 21; (with_reducible refine (rate_May.calls a1 true _ A11.out).mono ?_); rintro e w' ⟨rfl, ⟨nd, rfl⟩⟩) | ((with_reducible refine gate_callee (f := 33) rfl ?_); refine goesL_ (some 39) rfl rfl Try.func33 (by kernel_rfl) rfl #[.int .i64 a4] rfl (by (try simp only [List.map_toArray, List.map_cons, List.map_nil]); first | done | rfl | (simp only [List.length_drop, List.length_take]; rfl)) ?_; (with_reducible refine (count_Basis.calls a4 t289 _ A13.out).mono ?_); rintro e w20 ⟨rfl, hb⟩; refine ⟨_, rfl, ?_⟩; have n0_ := Aside0.mk (below_step (by repeat (first | (with_reducible first | exact HB.out | apply below_alloc | apply pw_below_drewN | apply below_drew1) | exact HB.out)) hb); clear HB; have HB := n0_; clear n0_; (try clear hb); (try clear hb2); (try clear hk); (try clear hi)) | ((with_reducible refine gate_callee (f := 26) rfl ?_); refine goesL_ (some 40) rfl rfl Try.func26 (by kernel_rfl) rfl #[.int .i64 a1, .int .i64 t286, .int .i64 t289] rfl (by (try simp only [List.map_toArray, List.map_cons, List.map_nil]); first | done | rfl | (simp only [List.length_drop, List.length_take]; rfl)) ?_; (with_reducible refine (rate_Part.calls k a1 t286 t289 t290 t291 _ A14.out).mono ?_); rintro e w21 ⟨rfl, hb⟩; refine ⟨_, rfl, ?_⟩; have n0_ := Aside0.mk (below_step (by repeat (first | (with_reducible first | exact HB.out | apply below_alloc | apply pw_below_drewN | apply below_drew1) | exact HB.out)) hb); clear HB; have HB := n0_; clear n0_; (try clear hb); (try clear hb2); (try clear hk); (try clear hi)))
          go_ret2
          exact ⟨by first | rfl | (simp [errW_none, errW_some] <;> rfl) | (simp [*, errW_none, errW_some] <;> rfl), by repeat (first | (with_reducible first | exact HB.out | apply below_alloc | apply pw_below_drewN | apply below_drew1) | exact HB.out)⟩
      · replace c12 := Bool.eq_false_iff.mpr c12
        subst c12
        have H1 : (some (0, 2)) = some (r1, r2) := by rw [if_neg (show ¬ (false = true) by decide)] at H; exact H
        clear H
        have H := H1
        clear H1
        simp only [Option.some.injEq, Prod.mk.injEq] at H
        obtain ⟨rfl, rfl⟩ := H
        go_wp2_with (first | (go_at_call 21; (with_reducible refine (rate_May.calls a1 false _ A11.out).mono ?_); rintro e w' ⟨rfl, ⟨nd, rfl⟩⟩))
        go_ret2
        exact ⟨by first | rfl | (simp [errW_none, errW_some] <;> rfl) | (simp [*, errW_none, errW_some] <;> rfl), by repeat (first | (with_reducible first | exact HB.out | apply below_alloc | apply pw_below_drewN | apply below_drew1) | exact HB.out)⟩
  · rw [if_neg c7] at H
    have c7b0 : (t287 == 0) = false := beq_eq_false_iff_ne.mpr c7
    have c7b1 : (t287 != 0) = true := bne_iff_ne.mpr c7
    simp only [Option.some.injEq, Prod.mk.injEq] at H
    obtain ⟨rfl, rfl⟩ := H
    go_enter Try.func31, Try.ntmps31
    go_wp2_with (first | ((with_reducible refine gate_callee (f := 29) rfl ?_); refine goesL_ (some 19) rfl rfl Try.func29 (by kernel_rfl) rfl #[.int .i64 a2, .int .i64 a3, .int .i64 a4] rfl (by (try simp only [List.map_toArray, List.map_cons, List.map_nil]); first | done | rfl | (simp only [List.length_drop, List.length_take]; rfl)) ?_; (with_reducible refine (count_Days.calls k a2 a3 a4 t286 t287 _ A6.out).mono ?_); rintro e w22 ⟨rfl, hb⟩; refine ⟨_, rfl, ?_⟩; have n0_ := Aside0.mk (below_step (by repeat (first | (with_reducible first | exact HB.out | apply below_alloc | apply pw_below_drewN | apply below_drew1) | exact HB.out)) hb); clear HB; have HB := n0_; clear n0_; (try clear hb); (try clear hb2); (try clear hk); (try clear hi)))
    go_ret2
    exact ⟨by first | rfl | (simp [errW_none, errW_some] <;> rfl) | (simp [*, errW_none, errW_some] <;> rfl), by repeat (first | (with_reducible first | exact HB.out | apply below_alloc | apply pw_below_drewN | apply below_drew1) | exact HB.out)⟩

end Go.Proofs.Ytioicmialbimfaa.S
end

section
namespace Go.Proofs.Ytioicmialbimfaa.S
open Go.RowKit Go.Proofs.YtioicmialbimfaaW.PrintWords Go.Proofs.YtioicmialbimfaaW.PrintLast Go.Proofs.YtioicmialbimfaaW.PrintMore
attribute [local go_sem] max2_int min2_int max_two min_two max_three min_three max_four min_four   -- for this text's walks alone
attribute [local go_sem] Go.Proofs.Ytioicmialbimfaa.XWalk.cell2
set_option linter.unusedVariables false
set_option linter.unusedSimpArgs false

/-! ### day_From: function 35 -/
def day_From.f (k : Nat) (a0_0 : Int) (a0_1 : Int) (a0_2 : Int) : Option (Int × Int) := if a0_2 < 1 then (some (0, 5)) else ((day_Last.f k a0_0 a0_1).bind fun t296 => (if a0_2 > t296 then (some (0, 5)) else ((day_number.f a0_0 a0_1 a0_2).bind fun t297 => (some (t297, 0)))))
theorem day_From.mono : ∀ a0 a1 a2 k, LeO (day_From.f k a0 a1 a2) (day_From.f (k + 1) a0 a1 a2) := by
  intro a0 a1 a2 k
  unfold day_From.f
  repeat' first
      | (with_reducible exact day_Last.mono _ _ _)
      | (with_reducible exact LeO.refl _)
      | (with_reducible exact LeO.none _)
      | (with_reducible refine LeO.ite ?_ ?_)
      | (with_reducible refine LeO.bind ?_ (fun _ => ?_))
      | exact day_Last.mono _ _ _
      | exact LeO.none _
      | refine LeO.ite ?_ ?_
      | refine LeO.bind ?_ (fun _ => ?_)
set_option maxHeartbeats 8000000 in
set_option maxRecDepth 100000 in
theorem day_From.calls (k : Nat) (a0_0 : Int) (a0_1 : Int) (a0_2 : Int) (r1 : Int) (r2 : Int) (w : World) (h : day_From.f k a0_0 a0_1 a0_2 = some (r1, r2)) :
    Calls Try.prog 35 #[.agg #[.int .i64 a0_0, .int .i64 a0_1, .int .i64 a0_2]] w fun e w' => e = .returned (.tuple #[.int .i64 r1, .int .i64 r2]) ∧ Below w.heap.size w w' := by
  have hu50 := Try.underlying50
  have HB := Aside0.mk (Below.refl w.heap.size w)
  have H : (if a0_2 < 1 then (some (0, 5)) else ((day_Last.f k a0_0 a0_1).bind fun t296 => (if a0_2 > t296 then (some (0, 5)) else ((day_number.f a0_0 a0_1 a0_2).bind fun t297 => (some (t297, 0)))))) = some (r1, r2) := h
  clear h
  have HC2 := Aside0.mk H
  clear H
  go_enter Try.func35, Try.ntmps35
  go_upto_region 1 with (first | ((with_reducible refine gate_dst (N := 1) rfl ?_); refine box_event ?hg (N := 1) ?hd (cs := #[.int .i64 a0_0, .int .i64 a0_1, .int .i64 a0_2]) (t := 50) ?hr ?_; (case hd => rfl); (case hg => rfl); (case hr => first | (go_simp; done) | (go_simp; rfl)); intro gb295 hg w3 hbox hb; have n0_ := Aside0.mk (below_step (by repeat (first | (with_reducible first | exact HB.out | apply below_alloc | apply pw_below_drewN | apply below_drew1) | exact HB.out)) hb); have n1_ := Aside0.mk (hbox); have n2_ := Aside0.mk ((by rw [hg]; exact (below_size (by repeat (first | (with_reducible first | exact HB.out | apply below_alloc | apply pw_below_drewN | apply below_drew1) | exact HB.out))) : w.heap.size ≤ gb295)); have n3_ := Aside0.mk ((by rw [hg]; exact (below_size (by repeat (first | (with_reducible first | exact HB.out | apply below_alloc | apply pw_below_drewN | apply below_drew1) | exact HB.out))) : w.heap.size ≤ gb295)); clear HB; have HB := n0_; have BK295 := n1_; have GW295 := n2_; have GE295 := n3_; clear n0_ n1_ n2_ n3_; clear hb hbox hg))
  repeat (go_quiet (first | ((with_reducible refine gate_dst (N := 1) rfl ?_); refine box_event ?hg (N := 1) ?hd (cs := #[.int .i64 a0_0, .int .i64 a0_1, .int .i64 a0_2]) (t := 50) ?hr ?_; (case hd => rfl); (case hg => rfl); (case hr => first | (go_simp; done) | (go_simp; rfl)); intro gb295 hg w3 hbox hb; have n0_ := Aside0.mk (below_step (by repeat (first | (with_reducible first | exact HB.out | apply below_alloc | apply pw_below_drewN | apply below_drew1) | exact HB.out)) hb); have n1_ := Aside0.mk (hbox); have n2_ := Aside0.mk ((by rw [hg]; exact (below_size (by repeat (first | (with_reducible first | exact HB.out | apply below_alloc | apply pw_below_drewN | apply below_drew1) | exact HB.out))) : w.heap.size ≤ gb295)); have n3_ := Aside0.mk ((by rw [hg]; exact (below_size (by repeat (first | (with_reducible first | exact HB.out | apply below_alloc | apply pw_below_drewN | apply below_drew1) | exact HB.out))) : w.heap.size ≤ gb295)); clear HB; have HB := n0_; have BK295 := n1_; have GW295 := n2_; have GE295 := n3_; clear n0_ n1_ n2_ n3_; clear hb hbox hg)); go_upto_region 1 with (first | ((with_reducible refine gate_dst (N := 1) rfl ?_); refine box_event ?hg (N := 1) ?hd (cs := #[.int .i64 a0_0, .int .i64 a0_1, .int .i64 a0_2]) (t := 50) ?hr ?_; (case hd => rfl); (case hg => rfl); (case hr => first | (go_simp; done) | (go_simp; rfl)); intro gb295 hg w3 hbox hb; have n0_ := Aside0.mk (below_step (by repeat (first | (with_reducible first | exact HB.out | apply below_alloc | apply pw_below_drewN | apply below_drew1) | exact HB.out)) hb); have n1_ := Aside0.mk (hbox); have n2_ := Aside0.mk ((by rw [hg]; exact (below_size (by repeat (first | (with_reducible first | exact HB.out | apply below_alloc | apply pw_below_drewN | apply below_drew1) | exact HB.out))) : w.heap.size ≤ gb295)); have n3_ := Aside0.mk ((by rw [hg]; exact (below_size (by repeat (first | (with_reducible first | exact HB.out | apply below_alloc | apply pw_below_drewN | apply below_drew1) | exact HB.out))) : w.heap.size ≤ gb295)); clear HB; have HB := n0_; have BK295 := n1_; have GW295 := n2_; have GE295 := n3_; clear n0_ n1_ n2_ n3_; clear hb hbox hg)))
  have H := HC2.out
  clear HC2
  by_cases c4 : a0_2 < 1
  · rw [if_pos c4] at H
    have c4b0 : decide (a0_2 < 1) = true := decide_eq_true c4
    clear c4
    simp only [Option.some.injEq, Prod.mk.injEq] at H
    obtain ⟨rfl, rfl⟩ := H
    have hcz5_0 : w3.cell? ⟨gb295, 0, none⟩ = some (.int .i64 a0_0) := (blk_cell BK295.out 0).trans rfl
    have hcz5_1 : w3.cell? ⟨gb295, 1, none⟩ = some (.int .i64 a0_1) := (blk_cell BK295.out 1).trans rfl
    have hcz5_2 : w3.cell? ⟨gb295, 2, none⟩ = some (.int .i64 a0_2) := (blk_cell BK295.out 2).trans rfl
    have hfz5_0 := blk_frozen BK295.out 0
    have hfz5_1 := blk_frozen BK295.out 1
    have hfz5_2 := blk_frozen BK295.out 2
    go_wp2
    repeat (go_quiet (fail); try go_wp2)
    go_ret2
    exact ⟨by first | rfl | (simp [errW_none, errW_some] <;> rfl) | (simp [*, errW_none, errW_some] <;> rfl), by repeat (first | (with_reducible first | exact HB.out | apply below_alloc | apply pw_below_drewN | apply below_drew1 | refine below_set ?_ GE295.out) | exact HB.out)⟩
  · rw [if_neg c4] at H
    have c4b0 : decide (a0_2 < 1) = false := decide_eq_false c4
    clear c4
    replace H := Option.bind_eq_some_iff.mp H
    obtain ⟨t296, A60, H⟩ := H
    replace H : (if a0_2 > t296 then (some (0, 5)) else ((day_number.f a0_0 a0_1 a0_2).bind fun t297 => (some (t297, 0)))) = some (r1, r2) := H
    have A6 := Aside0.mk A60
    clear A60
    by_cases c7 : a0_2 > t296
    · rw [if_pos c7] at H
      have c7b0 : decide (t296 < a0_2) = true := decide_eq_true c7
      clear c7
      simp only [Option.some.injEq, Prod.mk.injEq] at H
      obtain ⟨rfl, rfl⟩ := H
      have hcz8_0 : w3.cell? ⟨gb295, 0, none⟩ = some (.int .i64 a0_0) := (blk_cell BK295.out 0).trans rfl
      have hcz8_1 : w3.cell? ⟨gb295, 1, none⟩ = some (.int .i64 a0_1) := (blk_cell BK295.out 1).trans rfl
      have hcz8_2 : w3.cell? ⟨gb295, 2, none⟩ = some (.int .i64 a0_2) := (blk_cell BK295.out 2).trans rfl
      have hfz8_0 := blk_frozen BK295.out 0
      have hfz8_1 := blk_frozen BK295.out 1
      have hfz8_2 := blk_frozen BK295.out 2
      go_wp2_with (first | (go_at_call 45; (with_reducible refine (day_Last.calls k a0_0 a0_1 t296 _ A6.out).mono ?_); rintro e w' ⟨rfl, ⟨nd, rfl⟩⟩; (try first | exact ⟨rfl, _, World.drewN_drewN _ _ _⟩ | exact ⟨rfl, _, Eq.trans (World.drewN_drewN _ _ _) (congrArg (World.drewN _) (Nat.add_assoc _ _ _))⟩)))
      repeat (go_quiet (first | (go_at_call 45; (with_reducible refine (day_Last.calls k a0_0 a0_1 t296 _ A6.out).mono ?_); rintro e w' ⟨rfl, ⟨nd, rfl⟩⟩; (try first | exact ⟨rfl, _, World.drewN_drewN _ _ _⟩ | exact ⟨rfl, _, Eq.trans (World.drewN_drewN _ _ _) (congrArg (World.drewN _) (Nat.add_assoc _ _ _))⟩))); try go_wp2_with (first | (go_at_call 45; (with_reducible refine (day_Last.calls k a0_0 a0_1 t296 _ A6.out).mono ?_); rintro e w' ⟨rfl, ⟨nd, rfl⟩⟩; (try first | exact ⟨rfl, _, World.drewN_drewN _ _ _⟩ | exact ⟨rfl, _, Eq.trans (World.drewN_drewN _ _ _) (congrArg (World.drewN _) (Nat.add_assoc _ _ _))⟩))))
      go_ret2
      exact ⟨by first | rfl | (simp [errW_none, errW_some] <;> rfl) | (simp [*, errW_none, errW_some] <;> rfl), by repeat (first | (with_reducible first | exact HB.out | apply below_alloc | apply pw_below_drewN | apply below_drew1 | refine below_set ?_ GE295.out) | exact HB.out)⟩
    · rw [if_neg c7] at H
      have c7b0 : decide (t296 < a0_2) = false := decide_eq_false c7
      clear c7
      replace H := Option.bind_eq_some_iff.mp H
      obtain ⟨t297, A90, H⟩ := H
      replace H : (some (t297, 0)) = some (r1, r2) := H
      have A9 := Aside0.mk A90
      clear A90
      simp only [Option.some.injEq, Prod.mk.injEq] at H
      obtain ⟨rfl, rfl⟩ := H
      have hcz10_0 : w3.cell? ⟨gb295, 0, none⟩ = some (.int .i64 a0_0) := (blk_cell BK295.out 0).trans rfl
      have hcz10_1 : w3.cell? ⟨gb295, 1, none⟩ = some (.int .i64 a0_1) := (blk_cell BK295.out 1).trans rfl
      have hcz10_2 : w3.cell? ⟨gb295, 2, none⟩ = some (.int .i64 a0_2) := (blk_cell BK295.out 2).trans rfl
      have hfz10_0 := blk_frozen BK295.out 0
      have hfz10_1 := blk_frozen BK295.out 1
      have hfz10_2 := blk_frozen BK295.out 2
      go_wp2_with (first | (go_at_call 45; (with_reducible refine (day_Last.calls k a0_0 a0_1 t296 _ A6.out).mono ?_); rintro e w' ⟨rfl, ⟨nd, rfl⟩⟩; (try first | exact ⟨rfl, _, World.drewN_drewN _ _ _⟩ | exact ⟨rfl, _, Eq.trans (World.drewN_drewN _ _ _) (congrArg (World.drewN _) (Nat.add_assoc _ _ _))⟩)) | (go_at_call 46; (with_reducible refine (day_number.calls a0_0 a0_1 a0_2 t297 _ A9.out).mono ?_); rintro e w11 ⟨rfl, hb⟩; have n0_ := Aside0.mk (blk_below (g := gb295) (o := .cells #[.int .i64 a0_0, .int .i64 a0_1, .int .i64 a0_2] 50 (0, 0)) (by (with_reducible repeat (first | refine blk_drewN ?_ _ | refine blk_drew ?_ | refine blk_alloc ?_ _)); exact BK295.out) hb); have n1_ := Aside0.mk (below_step (by repeat (first | (with_reducible first | exact HB.out | apply below_alloc | apply pw_below_drewN | apply below_drew1 | refine below_set ?_ GE295.out) | exact HB.out)) hb); clear BK295; clear HB; have BK295 := n0_; have HB := n1_; clear n0_ n1_; (try clear hb); (try clear hb2); (try clear hk); (try clear hi)))
      repeat (go_quiet (first | (go_at_call 45; (with_reducible refine (day_Last.calls k a0_0 a0_1 t296 _ A6.out).mono ?_); rintro e w' ⟨rfl, ⟨nd, rfl⟩⟩; (try first | exact ⟨rfl, _, World.drewN_drewN _ _ _⟩ | exact ⟨rfl, _, Eq.trans (World.drewN_drewN _ _ _) (congrArg (World.drewN _) (Nat.add_assoc _ _ _))⟩)) | (go_at_call 46; (with_reducible refine (day_number.calls a0_0 a0_1 a0_2 t297 _ A9.out).mono ?_); rintro e w11 ⟨rfl, hb⟩; have n0_ := Aside0.mk (blk_below (g := gb295) (o := .cells #[.int .i64 a0_0, .int .i64 a0_1, .int .i64 a0_2] 50 (0, 0)) (by (with_reducible repeat (first | refine blk_drewN ?_ _ | refine blk_drew ?_ | refine blk_alloc ?_ _)); exact BK295.out) hb); have n1_ := Aside0.mk (below_step (by repeat (first | (with_reducible first | exact HB.out | apply below_alloc | apply pw_below_drewN | apply below_drew1 | refine below_set ?_ GE295.out) | exact HB.out)) hb); clear BK295; clear HB; have BK295 := n0_; have HB := n1_; clear n0_ n1_; (try clear hb); (try clear hb2); (try clear hk); (try clear hi))); try go_wp2_with (first | (go_at_call 45; (with_reducible refine (day_Last.calls k a0_0 a0_1 t296 _ A6.out).mono ?_); rintro e w' ⟨rfl, ⟨nd, rfl⟩⟩; (try first | exact ⟨rfl, _, World.drewN_drewN _ _ _⟩ | exact ⟨rfl, _, Eq.trans (World.drewN_drewN _ _ _) (congrArg (World.drewN _) (Nat.add_assoc _ _ _))⟩)) | (go_at_call 46; (with_reducible refine (day_number.calls a0_0 a0_1 a0_2 t297 _ A9.out).mono ?_); rintro e w11 ⟨rfl, hb⟩; have n0_ := Aside0.mk (blk_below (g := gb295) (o := .cells #[.int .i64 a0_0, .int .i64 a0_1, .int .i64 a0_2] 50 (0, 0)) (by (with_reducible repeat (first | refine blk_drewN ?_ _ | refine blk_drew ?_ | refine blk_alloc ?_ _)); exact BK295.out) hb); have n1_ := Aside0.mk (below_step (by repeat (first | (with_reducible first | exact HB.out | apply below_alloc | apply pw_below_drewN | apply below_drew1 | refine below_set ?_ GE295.out) | exact HB.out)) hb); clear BK295; clear HB; have BK295 := n0_; have HB := n1_; clear n0_ n1_; (try clear hb); (try clear hb2); (try clear hk); (try clear hi))))
      go_ret2
      exact ⟨by first | rfl | (simp [errW_none, errW_some] <;> rfl) | (simp [*, errW_none, errW_some] <;> rfl), by repeat (first | (with_reducible first | exact HB.out | apply below_alloc | apply pw_below_drewN | apply below_drew1 | refine below_set ?_ GE295.out) | exact HB.out)⟩

end Go.Proofs.Ytioicmialbimfaa.S
end

section
namespace Go.Proofs.Ytioicmialbimfaa.S
open Go.RowKit Go.Proofs.YtioicmialbimfaaW.PrintWords Go.Proofs.YtioicmialbimfaaW.PrintLast Go.Proofs.YtioicmialbimfaaW.PrintMore
attribute [local go_sem] max2_int min2_int max_two min_two max_three min_three max_four min_four   -- for this text's walks alone
attribute [local go_sem] Go.Proofs.Ytioicmialbimfaa.XWalk.cell2
set_option linter.unusedVariables false
set_option linter.unusedSimpArgs false

/-! ### lombardlaw05_alive: function 28 -/
def lombardlaw05_alive.f (k : Nat)  : Option (Bool) := (day_From.f k 2020 1 31).bind fun bt298 => ((day_From.f k 2020 3 1).bind fun bt300 => ((count_Days.f k bt298.1 bt300.1 1).bind fun bt302 => ((count_Days.f k bt298.1 bt300.1 2).bind fun bt304 => ((count_Accrue.f k 36000 100000000000 bt298.1 (wrap64 (bt298.1 + 10)) 2).bind fun bt306 => (if bt302.1 = 31 then (if bt302.2 = 0 then (if bt304.1 = 30 then (if bt304.2 = 0 then (if bt306.1 = 100 then (if bt306.2 = 0 then ((count_Basis.f 3).bind fun t308 => (some (t308 == 365))) else (some false)) else (some false)) else (some false)) else (some false)) else (some false)) else (some false))))))
theorem lombardlaw05_alive.mono : ∀ k, LeO (lombardlaw05_alive.f k ) (lombardlaw05_alive.f (k + 1) ) := by
  intro  k
  unfold lombardlaw05_alive.f
  repeat' first
      | (with_reducible exact count_Accrue.mono _ _ _ _ _ _)
      | (with_reducible exact count_Days.mono _ _ _ _)
      | (with_reducible exact day_From.mono _ _ _ _)
      | (with_reducible exact LeO.refl _)
      | (with_reducible exact LeO.none _)
      | (with_reducible refine LeO.ite ?_ ?_)
      | (with_reducible refine LeO.bind ?_ (fun _ => ?_))
      | exact count_Accrue.mono _ _ _ _ _ _
      | exact count_Days.mono _ _ _ _
      | exact day_From.mono _ _ _ _
      | exact LeO.none _
      | refine LeO.ite ?_ ?_
      | refine LeO.bind ?_ (fun _ => ?_)
set_option maxHeartbeats 8000000 in
set_option maxRecDepth 100000 in
theorem lombardlaw05_alive.calls (k : Nat)  (r : Bool) (w : World) (h : lombardlaw05_alive.f k  = some r) :
    Calls Try.prog 28 #[] w fun e w' => e = .returned (.bool r) ∧ Below w.heap.size w w' := by
  have hu50 := Try.underlying50
  have HB := Aside0.mk (Below.refl w.heap.size w)
  have H : ((day_From.f k 2020 1 31).bind fun bt298 => ((day_From.f k 2020 3 1).bind fun bt300 => ((count_Days.f k bt298.1 bt300.1 1).bind fun bt302 => ((count_Days.f k bt298.1 bt300.1 2).bind fun bt304 => ((count_Accrue.f k 36000 100000000000 bt298.1 (wrap64 (bt298.1 + 10)) 2).bind fun bt306 => (if bt302.1 = 31 then (if bt302.2 = 0 then (if bt304.1 = 30 then (if bt304.2 = 0 then (if bt306.1 = 100 then (if bt306.2 = 0 then ((count_Basis.f 3).bind fun t308 => (some (t308 == 365))) else (some false)) else (some false)) else (some false)) else (some false)) else (some false)) else (some false))))))) = some r := h
  clear h
  replace H := Option.bind_eq_some_iff.mp H
  obtain ⟨⟨t298, t299⟩, A10, H⟩ := H
  replace H : ((day_From.f k 2020 3 1).bind fun bt300 => ((count_Days.f k t298 bt300.1 1).bind fun bt302 => ((count_Days.f k t298 bt300.1 2).bind fun bt304 => ((count_Accrue.f k 36000 100000000000 t298 (wrap64 (t298 + 10)) 2).bind fun bt306 => (if bt302.1 = 31 then (if bt302.2 = 0 then (if bt304.1 = 30 then (if bt304.2 = 0 then (if bt306.1 = 100 then (if bt306.2 = 0 then ((count_Basis.f 3).bind fun t308 => (some (t308 == 365))) else (some false)) else (some false)) else (some false)) else (some false)) else (some false)) else (some false)))))) = some r := H
  have A1 := Aside0.mk A10
  clear A10
  replace H := Option.bind_eq_some_iff.mp H
  obtain ⟨⟨t300, t301⟩, A20, H⟩ := H
  replace H : ((count_Days.f k t298 t300 1).bind fun bt302 => ((count_Days.f k t298 t300 2).bind fun bt304 => ((count_Accrue.f k 36000 100000000000 t298 (wrap64 (t298 + 10)) 2).bind fun bt306 => (if bt302.1 = 31 then (if bt302.2 = 0 then (if bt304.1 = 30 then (if bt304.2 = 0 then (if bt306.1 = 100 then (if bt306.2 = 0 then ((count_Basis.f 3).bind fun t308 => (some (t308 == 365))) else (some false)) else (some false)) else (some false)) else (some false)) else (some false)) else (some false))))) = some r := H
  have A2 := Aside0.mk A20
  clear A20
  replace H := Option.bind_eq_some_iff.mp H
  obtain ⟨⟨t302, t303⟩, A30, H⟩ := H
  replace H : ((count_Days.f k t298 t300 2).bind fun bt304 => ((count_Accrue.f k 36000 100000000000 t298 (wrap64 (t298 + 10)) 2).bind fun bt306 => (if t302 = 31 then (if t303 = 0 then (if bt304.1 = 30 then (if bt304.2 = 0 then (if bt306.1 = 100 then (if bt306.2 = 0 then ((count_Basis.f 3).bind fun t308 => (some (t308 == 365))) else (some false)) else (some false)) else (some false)) else (some false)) else (some false)) else (some false)))) = some r := H
  have A3 := Aside0.mk A30
  clear A30
  replace H := Option.bind_eq_some_iff.mp H
  obtain ⟨⟨t304, t305⟩, A40, H⟩ := H
  replace H : ((count_Accrue.f k 36000 100000000000 t298 (wrap64 (t298 + 10)) 2).bind fun bt306 => (if t302 = 31 then (if t303 = 0 then (if t304 = 30 then (if t305 = 0 then (if bt306.1 = 100 then (if bt306.2 = 0 then ((count_Basis.f 3).bind fun t308 => (some (t308 == 365))) else (some false)) else (some false)) else (some false)) else (some false)) else (some false)) else (some false))) = some r := H
  have A4 := Aside0.mk A40
  clear A40
  replace H := Option.bind_eq_some_iff.mp H
  obtain ⟨⟨t306, t307⟩, A50, H⟩ := H
  replace H : (if t302 = 31 then (if t303 = 0 then (if t304 = 30 then (if t305 = 0 then (if t306 = 100 then (if t307 = 0 then ((count_Basis.f 3).bind fun t308 => (some (t308 == 365))) else (some false)) else (some false)) else (some false)) else (some false)) else (some false)) else (some false)) = some r := H
  have A5 := Aside0.mk A50
  clear A50
  have HC6 := Aside0.mk H
  clear H
  go_enter Try.func28, Try.ntmps28
  go_upto_region 6 with (first | ((with_reducible refine gate_callee (f := 35) rfl ?_); refine goesL_ (some 13) rfl rfl Try.func35 (by kernel_rfl) rfl #[.agg #[.int .i64 2020, .int .i64 1, .int .i64 31]] rfl (by (try simp only [List.map_toArray, List.map_cons, List.map_nil]); first | done | rfl | (simp only [List.length_drop, List.length_take]; rfl)) ?_; (with_reducible refine (day_From.calls k 2020 1 31 t298 t299 _ A1.out).mono ?_); rintro e w7 ⟨rfl, hb⟩; refine ⟨_, rfl, ?_⟩; have n0_ := Aside0.mk (below_step (by repeat (first | (with_reducible first | exact HB.out | apply below_alloc | apply pw_below_drewN | apply below_drew1) | exact HB.out)) hb); clear HB; have HB := n0_; clear n0_; (try clear hb); (try clear hb2); (try clear hk); (try clear hi)) | ((with_reducible refine gate_callee (f := 35) rfl ?_); refine goesL_ (some 18) rfl rfl Try.func35 (by kernel_rfl) rfl #[.agg #[.int .i64 2020, .int .i64 3, .int .i64 1]] rfl (by (try simp only [List.map_toArray, List.map_cons, List.map_nil]); first | done | rfl | (simp only [List.length_drop, List.length_take]; rfl)) ?_; (with_reducible refine (day_From.calls k 2020 3 1 t300 t301 _ A2.out).mono ?_); rintro e w8 ⟨rfl, hb⟩; refine ⟨_, rfl, ?_⟩; have n0_ := Aside0.mk (below_step (by repeat (first | (with_reducible first | exact HB.out | apply below_alloc | apply pw_below_drewN | apply below_drew1) | exact HB.out)) hb); clear HB; have HB := n0_; clear n0_; (try clear hb); (try clear hb2); (try clear hk); (try clear hi)) | ((with_reducible refine gate_callee (f := 29) rfl ?_); refine goesL_ (some 24) rfl rfl Try.func29 (by kernel_rfl) rfl #[.int .i64 t298, .int .i64 t300, .int .i64 1] rfl (by (try simp only [List.map_toArray, List.map_cons, List.map_nil]); first | done | rfl | (simp only [List.length_drop, List.length_take]; rfl)) ?_; (with_reducible refine (count_Days.calls k t298 t300 1 t302 t303 _ A3.out).mono ?_); rintro e w9 ⟨rfl, hb⟩; refine ⟨_, rfl, ?_⟩; have n0_ := Aside0.mk (below_step (by repeat (first | (with_reducible first | exact HB.out | apply below_alloc | apply pw_below_drewN | apply below_drew1) | exact HB.out)) hb); clear HB; have HB := n0_; clear n0_; (try clear hb); (try clear hb2); (try clear hk); (try clear hi)) | ((with_reducible refine gate_callee (f := 29) rfl ?_); refine goesL_ (some 30) rfl rfl Try.func29 (by kernel_rfl) rfl #[.int .i64 t298, .int .i64 t300, .int .i64 2] rfl (by (try simp only [List.map_toArray, List.map_cons, List.map_nil]); first | done | rfl | (simp only [List.length_drop, List.length_take]; rfl)) ?_; (with_reducible refine (count_Days.calls k t298 t300 2 t304 t305 _ A4.out).mono ?_); rintro e w10 ⟨rfl, hb⟩; refine ⟨_, rfl, ?_⟩; have n0_ := Aside0.mk (below_step (by repeat (first | (with_reducible first | exact HB.out | apply below_alloc | apply pw_below_drewN | apply below_drew1) | exact HB.out)) hb); clear HB; have HB := n0_; clear n0_; (try clear hb); (try clear hb2); (try clear hk); (try clear hi)) | ((with_reducible refine gate_callee (f := 31) rfl ?_); refine goesL_ (some 37) rfl rfl Try.func31 (by kernel_rfl) rfl #[.int .i64 36000, .int .i64 100000000000, .int .i64 t298, .int .i64 (wrap64 (t298 + 10)), .int .i64 2] rfl (by (try simp only [List.map_toArray, List.map_cons, List.map_nil]); first | done | rfl | (simp only [List.length_drop, List.length_take]; rfl)) ?_; (with_reducible refine (count_Accrue.calls k 36000 100000000000 t298 (wrap64 (t298 + 10)) 2 t306 t307 _ A5.out).mono ?_); rintro e w11 ⟨rfl, hb⟩; refine ⟨_, rfl, ?_⟩; have n0_ := Aside0.mk (below_step (by repeat (first | (with_reducible first | exact HB.out | apply below_alloc | apply pw_below_drewN | apply below_drew1) | exact HB.out)) hb); clear HB; have HB := n0_; clear n0_; (try clear hb); (try clear hb2); (try clear hk); (try clear hi)))
  have H := HC6.out
  clear HC6
  by_cases c12 : t302 = 31
  · rw [if_pos c12] at H
    have c12b0 : (t302 == 31) = true := beq_iff_eq.mpr c12
    have c12b1 : (t302 != 31) = false := bne_eq_false_iff_eq.mpr c12
    clear c12
    by_cases c13 : t303 = 0
    · rw [if_pos c13] at H
      have c13b0 : (t303 == 0) = true := beq_iff_eq.mpr c13
      have c13b1 : (t303 != 0) = false := bne_eq_false_iff_eq.mpr c13
      clear c13
      by_cases c14 : t304 = 30
      · rw [if_pos c14] at H
        have c14b0 : (t304 == 30) = true := beq_iff_eq.mpr c14
        have c14b1 : (t304 != 30) = false := bne_eq_false_iff_eq.mpr c14
        clear c14
        by_cases c15 : t305 = 0
        · rw [if_pos c15] at H
          have c15b0 : (t305 == 0) = true := beq_iff_eq.mpr c15
          have c15b1 : (t305 != 0) = false := bne_eq_false_iff_eq.mpr c15
          clear c15
          by_cases c16 : t306 = 100
          · rw [if_pos c16] at H
            have c16b0 : (t306 == 100) = true := beq_iff_eq.mpr c16
            have c16b1 : (t306 != 100) = false := bne_eq_false_iff_eq.mpr c16
            clear c16
            by_cases c17 : t307 = 0
            · rw [if_pos c17] at H
              have c17b0 : (t307 == 0) = true := beq_iff_eq.mpr c17
              have c17b1 : (t307 != 0) = false := bne_eq_false_iff_eq.mpr c17
              clear c17
              replace H := Option.bind_eq_some_iff.mp H
              obtain ⟨t308, A180, H⟩ := H
              replace H : (some (t308 == 365)) = some r := H
              have A18 := Aside0.mk A180
              clear A180
              obtain rfl := Option.some.inj H
              go_wp2_with (first | (go_at_call 33; (with_reducible refine (count_Basis.calls 3 t308 _ A18.out).mono ?_); rintro e w19 ⟨rfl, hb⟩; have n0_ := Aside0.mk (below_step (by repeat (first | (with_reducible first | exact HB.out | apply below_alloc | apply pw_below_drewN | apply below_drew1) | exact HB.out)) hb); clear HB; have HB := n0_; clear n0_; (try clear hb); (try clear hb2); (try clear hk); (try clear hi)))
              go_ret
              exact ⟨by first | rfl | (simp [errW_none, errW_some] <;> rfl) | (simp [*, errW_none, errW_some] <;> rfl), by repeat (first | (with_reducible first | exact HB.out | apply below_alloc | apply pw_below_drewN | apply below_drew1) | exact HB.out)⟩
            · rw [if_neg c17] at H
              have c17b0 : (t307 == 0) = false := beq_eq_false_iff_ne.mpr c17
              have c17b1 : (t307 != 0) = true := bne_iff_ne.mpr c17
              obtain rfl := Option.some.inj H
              go_wp2
              go_ret
              exact ⟨by first | rfl | (simp [errW_none, errW_some] <;> rfl) | (simp [*, errW_none, errW_some] <;> rfl), by repeat (first | (with_reducible first | exact HB.out | apply below_alloc | apply pw_below_drewN | apply below_drew1) | exact HB.out)⟩
          · rw [if_neg c16] at H
            have c16b0 : (t306 == 100) = false := beq_eq_false_iff_ne.mpr c16
            have c16b1 : (t306 != 100) = true := bne_iff_ne.mpr c16
            obtain rfl := Option.some.inj H
            go_wp2
            go_ret
            exact ⟨by first | rfl | (simp [errW_none, errW_some] <;> rfl) | (simp [*, errW_none, errW_some] <;> rfl), by repeat (first | (with_reducible first | exact HB.out | apply below_alloc | apply pw_below_drewN | apply below_drew1) | exact HB.out)⟩
        · rw [if_neg c15] at H
          have c15b0 : (t305 == 0) = false := beq_eq_false_iff_ne.mpr c15
          have c15b1 : (t305 != 0) = true := bne_iff_ne.mpr c15
          obtain rfl := Option.some.inj H
          go_wp2
          go_ret
          exact ⟨by first | rfl | (simp [errW_none, errW_some] <;> rfl) | (simp [*, errW_none, errW_some] <;> rfl), by repeat (first | (with_reducible first | exact HB.out | apply below_alloc | apply pw_below_drewN | apply below_drew1) | exact HB.out)⟩
      · rw [if_neg c14] at H
        have c14b0 : (t304 == 30) = false := beq_eq_false_iff_ne.mpr c14
        have c14b1 : (t304 != 30) = true := bne_iff_ne.mpr c14
        obtain rfl := Option.some.inj H
        go_wp2
        go_ret
        exact ⟨by first | rfl | (simp [errW_none, errW_some] <;> rfl) | (simp [*, errW_none, errW_some] <;> rfl), by repeat (first | (with_reducible first | exact HB.out | apply below_alloc | apply pw_below_drewN | apply below_drew1) | exact HB.out)⟩
    · rw [if_neg c13] at H
      have c13b0 : (t303 == 0) = false := beq_eq_false_iff_ne.mpr c13
      have c13b1 : (t303 != 0) = true := bne_iff_ne.mpr c13
      obtain rfl := Option.some.inj H
      go_wp2
      go_ret
      exact ⟨by first | rfl | (simp [errW_none, errW_some] <;> rfl) | (simp [*, errW_none, errW_some] <;> rfl), by repeat (first | (with_reducible first | exact HB.out | apply below_alloc | apply pw_below_drewN | apply below_drew1) | exact HB.out)⟩
  · rw [if_neg c12] at H
    have c12b0 : (t302 == 31) = false := beq_eq_false_iff_ne.mpr c12
    have c12b1 : (t302 != 31) = true := bne_iff_ne.mpr c12
    obtain rfl := Option.some.inj H
    go_wp2
    go_ret
    exact ⟨by first | rfl | (simp [errW_none, errW_some] <;> rfl) | (simp [*, errW_none, errW_some] <;> rfl), by repeat (first | (with_reducible first | exact HB.out | apply below_alloc | apply pw_below_drewN | apply below_drew1) | exact HB.out)⟩

end Go.Proofs.Ytioicmialbimfaa.S
end

section
namespace Go.Proofs.Ytioicmialbimfaa.S
open Go.RowKit Go.Proofs.YtioicmialbimfaaW.PrintWords Go.Proofs.YtioicmialbimfaaW.PrintLast Go.Proofs.YtioicmialbimfaaW.PrintMore
attribute [local go_sem] max2_int min2_int max_two min_two max_three min_three max_four min_four   -- for this text's walks alone
attribute [local go_sem] Go.Proofs.Ytioicmialbimfaa.XWalk.cell2
set_option linter.unusedVariables false
set_option linter.unusedSimpArgs false

/-! ### lombardlaw05_CountBrings: function 12 -/
mutual
def lombardlaw05_CountBrings.j0 : Nat → Int → Bool → Int → Int → Int → Int → Int → Option (Bool)
  | 0, _, _, _, _, _, _, _ => none
  | k + 1, x1, x31, x373000, x373001, x373002, x373003, x373004 => if x31 = true then (some true) else (lombardlaw05_CountBrings.l0 k x1 1 x373000 x373001 x373002 x373003 x373004)
def lombardlaw05_CountBrings.l0 : Nat → Int → Int → Int → Int → Int → Int → Int → Option (Bool)
  | 0, _, _, _, _, _, _, _ => none
  | k + 1, x1, x5, x373000, x373001, x373002, x373003, x373004 => if x5 ≤ 3 then ((count_Accrue.f k x373000 x373001 x373002 x373002 x5).bind fun bt374 => ((count_Accrue.f k x373000 x373001 x373002 (wrap64 (x373002 + (Int.tmod (wrap64 (x1)) 2000))) x5).bind fun bt376 => ((count_Accrue.f k x373000 x373001 x373002 (wrap64 ((wrap64 (x373002 + (Int.tmod (wrap64 (x1)) 2000))) + 5)) x5).bind fun bt378 => (if bt374.2 = 0 then (if bt376.2 = 0 then (if bt378.2 = 0 then (if bt374.1 = 0 then (if bt376.1 < 0 then (some false) else (if bt378.1 < bt376.1 then (some false) else (lombardlaw05_CountBrings.l0 k x1 (wrap64 (x5 + 1)) x373000 x373001 x373002 x373003 x373004))) else (some false)) else (some false)) else (some false)) else (some false))))) else (some true)
end
def lombardlaw05_CountBrings.f (k : Nat) (a0_0 : Int) (a0_1 : Int) (a0_2 : Int) (a0_3 : Int) (a0_4 : Int) (a1 : Int) : Option (Bool) := (lombardlaw05_alive.f k).bind fun t373 => (if t373 = true then (if a0_2 < 1 then (lombardlaw05_CountBrings.j0 k a1 true (mn (mx a0_0 0) 10000000000000) (mn (mx a0_1 0) 1000000000000) a0_2 a0_3 a0_4) else (lombardlaw05_CountBrings.j0 k a1 (decide (a0_2 > 3000000)) (mn (mx a0_0 0) 10000000000000) (mn (mx a0_1 0) 1000000000000) a0_2 a0_3 a0_4)) else (some false))
theorem lombardlaw05_CountBrings.mono_l : ∀ k, (∀ y0 y1 y2 y3 y4 y5 y6, LeO (lombardlaw05_CountBrings.j0 k y0 y1 y2 y3 y4 y5 y6) (lombardlaw05_CountBrings.j0 (k + 1) y0 y1 y2 y3 y4 y5 y6)) ∧ (∀ y0 y1 y2 y3 y4 y5 y6, LeO (lombardlaw05_CountBrings.l0 k y0 y1 y2 y3 y4 y5 y6) (lombardlaw05_CountBrings.l0 (k + 1) y0 y1 y2 y3 y4 y5 y6))
  | 0 => ⟨fun _ _ _ _ _ _ _ r h => by simp [lombardlaw05_CountBrings.j0] at h, fun _ _ _ _ _ _ _ r h => by simp [lombardlaw05_CountBrings.l0] at h⟩
  | k + 1 => by
    obtain ⟨ih0, ih1⟩ := lombardlaw05_CountBrings.mono_l k
    refine ⟨?_, ?_⟩
    · intro y0 y1 y2 y3 y4 y5 y6
      unfold lombardlaw05_CountBrings.j0
      repeat' first
      | (with_reducible exact ih0 _ _ _ _ _ _ _)
      | (with_reducible exact ih1 _ _ _ _ _ _ _)
      | (with_reducible exact count_Accrue.mono _ _ _ _ _ _)
      | (with_reducible exact lombardlaw05_alive.mono _)
      | (with_reducible exact LeO.refl _)
      | (with_reducible exact LeO.none _)
      | (with_reducible refine LeO.ite ?_ ?_)
      | (with_reducible refine LeO.bind ?_ (fun _ => ?_))
      | exact ih0 _ _ _ _ _ _ _
      | exact ih1 _ _ _ _ _ _ _
      | exact count_Accrue.mono _ _ _ _ _ _
      | exact lombardlaw05_alive.mono _
      | exact LeO.none _
      | refine LeO.ite ?_ ?_
      | refine LeO.bind ?_ (fun _ => ?_)
    · intro y0 y1 y2 y3 y4 y5 y6
      unfold lombardlaw05_CountBrings.l0
      repeat' first
      | (with_reducible exact ih0 _ _ _ _ _ _ _)
      | (with_reducible exact ih1 _ _ _ _ _ _ _)
      | (with_reducible exact count_Accrue.mono _ _ _ _ _ _)
      | (with_reducible exact lombardlaw05_alive.mono _)
      | (with_reducible exact LeO.refl _)
      | (with_reducible exact LeO.none _)
      | (with_reducible refine LeO.ite ?_ ?_)
      | (with_reducible refine LeO.bind ?_ (fun _ => ?_))
      | exact ih0 _ _ _ _ _ _ _
      | exact ih1 _ _ _ _ _ _ _
      | exact count_Accrue.mono _ _ _ _ _ _
      | exact lombardlaw05_alive.mono _
      | exact LeO.none _
      | refine LeO.ite ?_ ?_
      | refine LeO.bind ?_ (fun _ => ?_)
theorem lombardlaw05_CountBrings.mono : ∀ a0 a1 a2 a3 a4 a5 k, LeO (lombardlaw05_CountBrings.f k a0 a1 a2 a3 a4 a5) (lombardlaw05_CountBrings.f (k + 1) a0 a1 a2 a3 a4 a5) := by
  intro a0 a1 a2 a3 a4 a5 k
  obtain ⟨ih0, ih1⟩ := lombardlaw05_CountBrings.mono_l k
  unfold lombardlaw05_CountBrings.f
  repeat' first
      | (with_reducible exact ih0 _ _ _ _ _ _ _)
      | (with_reducible exact ih1 _ _ _ _ _ _ _)
      | (with_reducible exact count_Accrue.mono _ _ _ _ _ _)
      | (with_reducible exact lombardlaw05_alive.mono _)
      | (with_reducible exact LeO.refl _)
      | (with_reducible exact LeO.none _)
      | (with_reducible refine LeO.ite ?_ ?_)
      | (with_reducible refine LeO.bind ?_ (fun _ => ?_))
      | exact ih0 _ _ _ _ _ _ _
      | exact ih1 _ _ _ _ _ _ _
      | exact count_Accrue.mono _ _ _ _ _ _
      | exact lombardlaw05_alive.mono _
      | exact LeO.none _
      | refine LeO.ite ?_ ?_
      | refine LeO.bind ?_ (fun _ => ?_)
set_option maxHeartbeats 8000000 in
set_option maxRecDepth 100000 in
theorem lombardlaw05_CountBrings.calls (k : Nat) (a0_0 : Int) (a0_1 : Int) (a0_2 : Int) (a0_3 : Int) (a0_4 : Int) (a1 : Int) (r : Bool) (w : World) (h : lombardlaw05_CountBrings.f k a0_0 a0_1 a0_2 a0_3 a0_4 a1 = some r) :
    Calls Try.prog 12 #[.agg #[.int .i64 a0_0, .int .i64 a0_1, .int .i64 a0_2, .int .i64 a0_3, .int .i64 a0_4], .int .u16 a1] w fun e w' => e = .returned (.bool r) ∧ Below w.heap.size w w' := by
  have hu42 := Try.underlying42
  have HB := Aside0.mk (Below.refl w.heap.size w)
  have H : ((lombardlaw05_alive.f k).bind fun t373 => (if t373 = true then (if a0_2 < 1 then (lombardlaw05_CountBrings.j0 k a1 true (mn (mx a0_0 0) 10000000000000) (mn (mx a0_1 0) 1000000000000) a0_2 a0_3 a0_4) else (lombardlaw05_CountBrings.j0 k a1 (decide (a0_2 > 3000000)) (mn (mx a0_0 0) 10000000000000) (mn (mx a0_1 0) 1000000000000) a0_2 a0_3 a0_4)) else (some false))) = some r := h
  clear h
  replace H := Option.bind_eq_some_iff.mp H
  obtain ⟨t373, A30, H⟩ := H
  replace H : (if t373 = true then (if a0_2 < 1 then (lombardlaw05_CountBrings.j0 k a1 true (mn (mx a0_0 0) 10000000000000) (mn (mx a0_1 0) 1000000000000) a0_2 a0_3 a0_4) else (lombardlaw05_CountBrings.j0 k a1 (decide (a0_2 > 3000000)) (mn (mx a0_0 0) 10000000000000) (mn (mx a0_1 0) 1000000000000) a0_2 a0_3 a0_4)) else (some false)) = some r := H
  have A3 := Aside0.mk A30
  clear A30
  by_cases c4 : t373 = true
  · subst c4
    have H1 : (if a0_2 < 1 then (lombardlaw05_CountBrings.j0 k a1 true (mn (mx a0_0 0) 10000000000000) (mn (mx a0_1 0) 1000000000000) a0_2 a0_3 a0_4) else (lombardlaw05_CountBrings.j0 k a1 (decide (a0_2 > 3000000)) (mn (mx a0_0 0) 10000000000000) (mn (mx a0_1 0) 1000000000000) a0_2 a0_3 a0_4)) = some r := by rw [if_pos rfl] at H; exact H
    clear H
    have H := H1
    clear H1
    obtain ⟨ji5, hji5⟩ : ∃ j_ : Int, (mx a0_0 0) = j_ := ⟨_, rfl⟩
    replace H : (if a0_2 < 1 then (lombardlaw05_CountBrings.j0 k a1 true (mn (ji5) 10000000000000) (mn (mx a0_1 0) 1000000000000) a0_2 a0_3 a0_4) else (lombardlaw05_CountBrings.j0 k a1 (decide (a0_2 > 3000000)) (mn (ji5) 10000000000000) (mn (mx a0_1 0) 1000000000000) a0_2 a0_3 a0_4)) = some r := by first | (rw [hji5] at H; exact H) | (simp only [hji5] at H ⊢; exact H)
    (try rw [hji5] at A3)
    (try (have hji5l : 0 ≤ ji5 := by (rw [← hji5]; unfold mx; (repeat' split) <;> omega)))
    (try (have hji5m : 0 ≤ ji5 := by omega))
    have hji5_ : (if a0_0 < 0 then 0 else a0_0) = ji5 := hji5
    obtain ⟨ji6, hji6⟩ : ∃ j_ : Int, (mn (ji5) 10000000000000) = j_ := ⟨_, rfl⟩
    replace H : (if a0_2 < 1 then (lombardlaw05_CountBrings.j0 k a1 true ji6 (mn (mx a0_1 0) 1000000000000) a0_2 a0_3 a0_4) else (lombardlaw05_CountBrings.j0 k a1 (decide (a0_2 > 3000000)) ji6 (mn (mx a0_1 0) 1000000000000) a0_2 a0_3 a0_4)) = some r := by first | (rw [hji6] at H; exact H) | (simp only [hji6] at H ⊢; exact H)
    (try rw [hji6] at A3)
    have hji6_ : (if 10000000000000 < (ji5) then 10000000000000 else (ji5)) = ji6 := hji6
    obtain ⟨ji7, hji7⟩ : ∃ j_ : Int, (mx a0_1 0) = j_ := ⟨_, rfl⟩
    replace H : (if a0_2 < 1 then (lombardlaw05_CountBrings.j0 k a1 true ji6 (mn (ji7) 1000000000000) a0_2 a0_3 a0_4) else (lombardlaw05_CountBrings.j0 k a1 (decide (a0_2 > 3000000)) ji6 (mn (ji7) 1000000000000) a0_2 a0_3 a0_4)) = some r := by first | (rw [hji7] at H; exact H) | (simp only [hji7] at H ⊢; exact H)
    (try rw [hji7] at A3)
    (try (have hji7l : 0 ≤ ji7 := by (rw [← hji7]; unfold mx; (repeat' split) <;> omega)))
    (try (have hji7m : 0 ≤ ji7 := by omega))
    have hji7_ : (if a0_1 < 0 then 0 else a0_1) = ji7 := hji7
    obtain ⟨ji8, hji8⟩ : ∃ j_ : Int, (mn (ji7) 1000000000000) = j_ := ⟨_, rfl⟩
    replace H : (if a0_2 < 1 then (lombardlaw05_CountBrings.j0 k a1 true ji6 ji8 a0_2 a0_3 a0_4) else (lombardlaw05_CountBrings.j0 k a1 (decide (a0_2 > 3000000)) ji6 ji8 a0_2 a0_3 a0_4)) = some r := by first | (rw [hji8] at H; exact H) | (simp only [hji8] at H ⊢; exact H)
    (try rw [hji8] at A3)
    have hji8_ : (if 1000000000000 < (ji7) then 1000000000000 else (ji7)) = ji8 := hji8
    have HC9 := Aside0.mk H
    clear H
    go_enter Try.func12, Try.ntmps12
    go_upto_region 4 with (first | ((with_reducible refine gate_dst (N := 2) rfl ?_); refine box_event ?hg (N := 2) ?hd (cs := #[.int .i64 a0_0, .int .i64 a0_1, .int .i64 a0_2, .int .i64 a0_3, .int .i64 a0_4]) (t := 42) ?hr ?_; (case hd => rfl); (case hg => rfl); (case hr => first | (go_simp; done) | (go_simp; rfl)); intro gb372 hg w10 hbox hb; have n0_ := Aside0.mk (below_step (by repeat (first | (with_reducible first | exact HB.out | apply below_alloc | apply pw_below_drewN | apply below_drew1) | exact HB.out)) hb); have n1_ := Aside0.mk (hbox); have n2_ := Aside0.mk ((by rw [hg]; exact (below_size (by repeat (first | (with_reducible first | exact HB.out | apply below_alloc | apply pw_below_drewN | apply below_drew1) | exact HB.out))) : w.heap.size ≤ gb372)); have n3_ := Aside0.mk ((by rw [hg]; exact (below_size (by repeat (first | (with_reducible first | exact HB.out | apply below_alloc | apply pw_below_drewN | apply below_drew1) | exact HB.out))) : w.heap.size ≤ gb372)); clear HB; have HB := n0_; have BK372 := n1_; have GW372 := n2_; have GE372 := n3_; clear n0_ n1_ n2_ n3_; clear hb hbox hg) | ((with_reducible refine gate_callee (f := 28) rfl ?_); refine goesL_ (some 12) rfl rfl Try.func28 (by kernel_rfl) rfl #[] rfl (by (try simp only [List.map_toArray, List.map_cons, List.map_nil]); first | done | rfl | (simp only [List.length_drop, List.length_take]; rfl)) ?_; (with_reducible refine (lombardlaw05_alive.calls k  true _ A3.out).mono ?_); rintro e w11 ⟨rfl, hb⟩; refine ⟨_, rfl, ?_⟩; have n0_ := Aside0.mk (blk_below (g := gb372) (o := .cells #[.int .i64 a0_0, .int .i64 a0_1, .int .i64 a0_2, .int .i64 a0_3, .int .i64 a0_4] 42 (0, 0)) (by (with_reducible repeat (first | refine blk_drewN ?_ _ | refine blk_drew ?_ | refine blk_alloc ?_ _)); exact BK372.out) hb); have n1_ := Aside0.mk (below_step (by repeat (first | (with_reducible first | exact HB.out | apply below_alloc | apply pw_below_drewN | apply below_drew1 | refine below_set ?_ GE372.out) | exact HB.out)) hb); clear BK372; clear HB; have BK372 := n0_; have HB := n1_; clear n0_ n1_; (try clear hb); (try clear hb2); (try clear hk); (try clear hi); have hcz12_0 : w11.cell? ⟨gb372, 0, none⟩ = some (.int .i64 a0_0) := (blk_cell BK372.out 0).trans rfl; have hcz12_1 : w11.cell? ⟨gb372, 1, none⟩ = some (.int .i64 a0_1) := (blk_cell BK372.out 1).trans rfl; have hcz12_2 : w11.cell? ⟨gb372, 2, none⟩ = some (.int .i64 a0_2) := (blk_cell BK372.out 2).trans rfl; have hcz12_3 : w11.cell? ⟨gb372, 3, none⟩ = some (.int .i64 a0_3) := (blk_cell BK372.out 3).trans rfl; have hcz12_4 : w11.cell? ⟨gb372, 4, none⟩ = some (.int .i64 a0_4) := (blk_cell BK372.out 4).trans rfl; have hfz12_0 := blk_frozen BK372.out 0; have hfz12_1 := blk_frozen BK372.out 1; have hfz12_2 := blk_frozen BK372.out 2; have hfz12_3 := blk_frozen BK372.out 3; have hfz12_4 := blk_frozen BK372.out 4))
    (try simp only [Act.put, List.setIfInBounds_toArray, List.set_cons_zero, List.set_cons_succ])
    go_cut [31] (fun v31 wc => ∃ (kq : Nat) (x31_8 : Bool), v31 = .bool x31_8 ∧ Aside0 (lombardlaw05_CountBrings.j0 kq a1 x31_8 ji6 ji8 a0_2 a0_3 a0_4 = some r) ∧ Aside0 (kq ≤ k) ∧ Aside0 (wc.heap[gb372]? = some (.cells #[.int .i64 ji6, .int .i64 ji8, .int .i64 a0_2, .int .i64 a0_3, .int .i64 a0_4] 42 (0, 0))) ∧ Aside0 (Below w.heap.size w wc))
    case first =>
      have H := HC9.out
      clear HC9
      by_cases c13 : a0_2 < 1
      · rw [if_pos c13] at H
        have c13b0 : decide (a0_2 < 1) = true := decide_eq_true c13
        clear c13
        (first | rw [c13b0] | (simp only [i64_w, i32_w]; rw [c13b0]) | skip)
        have H' := Aside0.mk H
        clear H
        have hcz14_0 : w11.cell? ⟨gb372, 0, none⟩ = some (.int .i64 a0_0) := (blk_cell BK372.out 0).trans rfl
        have hcz14_1 : w11.cell? ⟨gb372, 1, none⟩ = some (.int .i64 a0_1) := (blk_cell BK372.out 1).trans rfl
        have hcz14_2 : w11.cell? ⟨gb372, 2, none⟩ = some (.int .i64 a0_2) := (blk_cell BK372.out 2).trans rfl
        have hcz14_3 : w11.cell? ⟨gb372, 3, none⟩ = some (.int .i64 a0_3) := (blk_cell BK372.out 3).trans rfl
        have hcz14_4 : w11.cell? ⟨gb372, 4, none⟩ = some (.int .i64 a0_4) := (blk_cell BK372.out 4).trans rfl
        have hfz14_0 := blk_frozen BK372.out 0
        have hfz14_1 := blk_frozen BK372.out 1
        have hfz14_2 := blk_frozen BK372.out 2
        have hfz14_3 := blk_frozen BK372.out 3
        have hfz14_4 := blk_frozen BK372.out 4
        go_wp2
        go_meet
        case rel => exact ⟨_, (true), (by first | rfl | (simp; done) | (simp [*]; done)), H', ⟨by first | omega | exact Nat.le_refl _⟩, ⟨by (with_reducible repeat (first | refine blk_drewN ?_ _ | refine blk_drew ?_ | refine blk_alloc ?_ _)); refine blk_put (cs := #[.int .i64 ji6, .int .i64 a0_1, .int .i64 a0_2, .int .i64 a0_3, .int .i64 a0_4]) ?_ 1 _ rfl; (with_reducible repeat (first | refine blk_drewN ?_ _ | refine blk_drew ?_ | refine blk_alloc ?_ _)); refine blk_put (cs := #[.int .i64 a0_0, .int .i64 a0_1, .int .i64 a0_2, .int .i64 a0_3, .int .i64 a0_4]) ?_ 0 _ rfl; (with_reducible repeat (first | refine blk_drewN ?_ _ | refine blk_drew ?_ | refine blk_alloc ?_ _)); exact BK372.out⟩, ⟨by repeat (first | (with_reducible first | exact HB.out | apply below_alloc | apply pw_below_drewN | apply below_drew1 | refine below_set ?_ GE372.out) | exact HB.out)⟩⟩
      · rw [if_neg c13] at H
        have c13b0 : decide (a0_2 < 1) = false := decide_eq_false c13
        clear c13
        (first | rw [c13b0] | (simp only [i64_w, i32_w]; rw [c13b0]) | skip)
        have H' := Aside0.mk H
        clear H
        have hcz15_0 : w11.cell? ⟨gb372, 0, none⟩ = some (.int .i64 a0_0) := (blk_cell BK372.out 0).trans rfl
        have hcz15_1 : w11.cell? ⟨gb372, 1, none⟩ = some (.int .i64 a0_1) := (blk_cell BK372.out 1).trans rfl
        have hcz15_2 : w11.cell? ⟨gb372, 2, none⟩ = some (.int .i64 a0_2) := (blk_cell BK372.out 2).trans rfl
        have hcz15_3 : w11.cell? ⟨gb372, 3, none⟩ = some (.int .i64 a0_3) := (blk_cell BK372.out 3).trans rfl
        have hcz15_4 : w11.cell? ⟨gb372, 4, none⟩ = some (.int .i64 a0_4) := (blk_cell BK372.out 4).trans rfl
        have hfz15_0 := blk_frozen BK372.out 0
        have hfz15_1 := blk_frozen BK372.out 1
        have hfz15_2 := blk_frozen BK372.out 2
        have hfz15_3 := blk_frozen BK372.out 3
        have hfz15_4 := blk_frozen BK372.out 4
        go_wp2
        go_meet
        case rel => exact ⟨_, (decide (a0_2 > 3000000)), (by first | rfl | (simp; done) | (simp [*]; done)), H', ⟨by first | omega | exact Nat.le_refl _⟩, ⟨by (with_reducible repeat (first | refine blk_drewN ?_ _ | refine blk_drew ?_ | refine blk_alloc ?_ _)); refine blk_put (cs := #[.int .i64 ji6, .int .i64 a0_1, .int .i64 a0_2, .int .i64 a0_3, .int .i64 a0_4]) ?_ 1 _ rfl; (with_reducible repeat (first | refine blk_drewN ?_ _ | refine blk_drew ?_ | refine blk_alloc ?_ _)); refine blk_put (cs := #[.int .i64 a0_0, .int .i64 a0_1, .int .i64 a0_2, .int .i64 a0_3, .int .i64 a0_4]) ?_ 0 _ rfl; (with_reducible repeat (first | refine blk_drewN ?_ _ | refine blk_drew ?_ | refine blk_alloc ?_ _)); exact BK372.out⟩, ⟨by repeat (first | (with_reducible first | exact HB.out | apply below_alloc | apply pw_below_drewN | apply below_drew1 | refine below_set ?_ GE372.out) | exact HB.out)⟩⟩
    case rest =>
      clear HC9
      try clear c1
      try clear c2
      try clear p2
      try clear c4
      try clear c12
      try clear c13
      try clear c13b0
      try clear hcz12_0
      try clear hcz12_1
      try clear hcz12_2
      try clear hcz12_3
      try clear hcz12_4
      try clear hcz14_0
      try clear hcz14_1
      try clear hcz14_2
      try clear hcz14_3
      try clear hcz14_4
      try clear hcz15_0
      try clear hcz15_1
      try clear hcz15_2
      try clear hcz15_3
      try clear hcz15_4
      try clear hfz12_0
      try clear hfz12_1
      try clear hfz12_2
      try clear hfz12_3
      try clear hfz12_4
      try clear hfz14_0
      try clear hfz14_1
      try clear hfz14_2
      try clear hfz14_3
      try clear hfz14_4
      try clear hfz15_0
      try clear hfz15_1
      try clear hfz15_2
      try clear hfz15_3
      try clear hfz15_4
      obtain ⟨kq, x31_8, rfl, HA, HJ8, BK372, HB⟩ := hcut
      cases kq with
      | zero => exact absurd HA.out (by simp [lombardlaw05_CountBrings.j0])
      | succ kj8 =>
        have H := HA.out
        clear HA
        simp only [lombardlaw05_CountBrings.j0] at H
        by_cases c16 : x31_8 = true
        · subst c16
          have H1 : (some true) = some r := by rw [if_pos rfl] at H; exact H
          clear H
          have H := H1
          clear H1
          obtain rfl := Option.some.inj H
          go_wp2
          go_ret
          exact ⟨by first | rfl | (simp [errW_none, errW_some] <;> rfl) | (simp only [← hji5, ← hji6, ← hji7, ← hji8]; first | rfl | (simp [errW_none, errW_some] <;> rfl)) | (simp [*, errW_none, errW_some] <;> rfl), by repeat (first | (with_reducible first | exact HB.out | apply below_alloc | apply pw_below_drewN | apply below_drew1 | refine below_set ?_ GE372.out) | exact HB.out)⟩
        · replace c16 := Bool.eq_false_iff.mpr c16
          subst c16
          have H1 : (lombardlaw05_CountBrings.l0 kj8 a1 1 ji6 ji8 a0_2 a0_3 a0_4) = some r := by rw [if_neg (show ¬ (false = true) by decide)] at H; exact H
          clear H
          have H := H1
          clear H1
          have H' := Aside0.mk H
          clear H
          go_wp2
          go_loopg [5] kj8 (fun kq v5 w' => ∃ (x5_2 : Int), v5 = .int .i64 x5_2 ∧ Aside0 (lombardlaw05_CountBrings.l0 kq a1 x5_2 ji6 ji8 a0_2 a0_3 a0_4 = some r) ∧ Aside0 (kq ≤ kj8) ∧ Aside0 (w'.heap[gb372]? = some (.cells #[.int .i64 ji6, .int .i64 ji8, .int .i64 a0_2, .int .i64 a0_3, .int .i64 a0_4] 42 (0, 0))) ∧ Aside0 (Below w.heap.size w w'))
          case atStart => exact ⟨(1), (by first | rfl | (simp; done) | (simp [*]; done)), H', ⟨Nat.le_refl _⟩, ⟨by (with_reducible repeat (first | refine blk_drewN ?_ _ | refine blk_drew ?_ | refine blk_alloc ?_ _)); exact BK372.out⟩, ⟨by repeat (first | (with_reducible first | exact HB.out | apply below_alloc | apply pw_below_drewN | apply below_drew1 | refine below_set ?_ GE372.out) | exact HB.out)⟩⟩
          case round =>
            clear H'
            try clear c1
            try clear c2
            try clear p2
            try clear c4
            try clear c12
            try clear c13
            try clear c13b0
            try clear c16
            try clear hcz12_0
            try clear hcz12_1
            try clear hcz12_2
            try clear hcz12_3
            try clear hcz12_4
            try clear hcz14_0
            try clear hcz14_1
            try clear hcz14_2
            try clear hcz14_3
            try clear hcz14_4
            try clear hcz15_0
            try clear hcz15_1
            try clear hcz15_2
            try clear hcz15_3
            try clear hcz15_4
            try clear hfz12_0
            try clear hfz12_1
            try clear hfz12_2
            try clear hfz12_3
            try clear hfz12_4
            try clear hfz14_0
            try clear hfz14_1
            try clear hfz14_2
            try clear hfz14_3
            try clear hfz14_4
            try clear hfz15_0
            try clear hfz15_1
            try clear hfz15_2
            try clear hfz15_3
            try clear hfz15_4
            try clear p2
            obtain ⟨x5_2, rfl, HA, HK2, BK372, HB⟩ := hrel
            cases gk with
            | zero => exact absurd HA.out (by simp [lombardlaw05_CountBrings.l0])
            | succ k2 =>
              have H := HA.out
              clear HA
              simp only [lombardlaw05_CountBrings.l0] at H
              by_cases c17 : x5_2 ≤ 3
              · rw [if_pos c17] at H
                have c17b0 : decide (x5_2 ≤ 3) = true := decide_eq_true c17
                clear c17
                replace H := Option.bind_eq_some_iff.mp H
                obtain ⟨⟨t374, t375⟩, A180, H⟩ := H
                replace H : ((count_Accrue.f k2 ji6 ji8 a0_2 (wrap64 (a0_2 + (Int.tmod (wrap64 (a1)) 2000))) x5_2).bind fun bt376 => ((count_Accrue.f k2 ji6 ji8 a0_2 (wrap64 ((wrap64 (a0_2 + (Int.tmod (wrap64 (a1)) 2000))) + 5)) x5_2).bind fun bt378 => (if t375 = 0 then (if bt376.2 = 0 then (if bt378.2 = 0 then (if t374 = 0 then (if bt376.1 < 0 then (some false) else (if bt378.1 < bt376.1 then (some false) else (lombardlaw05_CountBrings.l0 k2 a1 (wrap64 (x5_2 + 1)) ji6 ji8 a0_2 a0_3 a0_4))) else (some false)) else (some false)) else (some false)) else (some false)))) = some r := H
                have A18 := Aside0.mk A180
                clear A180
                replace H := Option.bind_eq_some_iff.mp H
                obtain ⟨⟨t376, t377⟩, A190, H⟩ := H
                replace H : ((count_Accrue.f k2 ji6 ji8 a0_2 (wrap64 ((wrap64 (a0_2 + (Int.tmod (wrap64 (a1)) 2000))) + 5)) x5_2).bind fun bt378 => (if t375 = 0 then (if t377 = 0 then (if bt378.2 = 0 then (if t374 = 0 then (if t376 < 0 then (some false) else (if bt378.1 < t376 then (some false) else (lombardlaw05_CountBrings.l0 k2 a1 (wrap64 (x5_2 + 1)) ji6 ji8 a0_2 a0_3 a0_4))) else (some false)) else (some false)) else (some false)) else (some false))) = some r := H
                have A19 := Aside0.mk A190
                clear A190
                replace H := Option.bind_eq_some_iff.mp H
                obtain ⟨⟨t378, t379⟩, A200, H⟩ := H
                replace H : (if t375 = 0 then (if t377 = 0 then (if t379 = 0 then (if t374 = 0 then (if t376 < 0 then (some false) else (if t378 < t376 then (some false) else (lombardlaw05_CountBrings.l0 k2 a1 (wrap64 (x5_2 + 1)) ji6 ji8 a0_2 a0_3 a0_4))) else (some false)) else (some false)) else (some false)) else (some false)) = some r := H
                have A20 := Aside0.mk A200
                clear A200
                have HC21 := Aside0.mk H
                clear H
                have hcz22_0 : wr.cell? ⟨gb372, 0, none⟩ = some (.int .i64 ji6) := (blk_cell BK372.out 0).trans rfl
                have hcz22_1 : wr.cell? ⟨gb372, 1, none⟩ = some (.int .i64 ji8) := (blk_cell BK372.out 1).trans rfl
                have hcz22_2 : wr.cell? ⟨gb372, 2, none⟩ = some (.int .i64 a0_2) := (blk_cell BK372.out 2).trans rfl
                have hcz22_3 : wr.cell? ⟨gb372, 3, none⟩ = some (.int .i64 a0_3) := (blk_cell BK372.out 3).trans rfl
                have hcz22_4 : wr.cell? ⟨gb372, 4, none⟩ = some (.int .i64 a0_4) := (blk_cell BK372.out 4).trans rfl
                have hfz22_0 := blk_frozen BK372.out 0
                have hfz22_1 := blk_frozen BK372.out 1
                have hfz22_2 := blk_frozen BK372.out 2
                have hfz22_3 := blk_frozen BK372.out 3
                have hfz22_4 := blk_frozen BK372.out 4
                go_upto_region 12 with (first | ((with_reducible refine gate_callee (f := 31) rfl ?_); refine goesL_ (some 46) rfl rfl Try.func31 (by kernel_rfl) rfl #[.int .i64 ji6, .int .i64 ji8, .int .i64 a0_2, .int .i64 a0_2, .int .i64 x5_2] rfl (by (try simp only [List.map_toArray, List.map_cons, List.map_nil]); first | done | (simp only [hji6, hji8]; rfl) | rfl | (simp only [List.length_drop, List.length_take]; rfl)) ?_; (with_reducible refine (count_Accrue.calls k2 ji6 ji8 a0_2 a0_2 x5_2 t374 t375 _ A18.out).mono ?_); rintro e w23 ⟨rfl, hb⟩; refine ⟨_, rfl, ?_⟩; have n0_ := Aside0.mk (blk_below (g := gb372) (o := .cells #[.int .i64 ji6, .int .i64 ji8, .int .i64 a0_2, .int .i64 a0_3, .int .i64 a0_4] 42 (0, 0)) (by (with_reducible repeat (first | refine blk_drewN ?_ _ | refine blk_drew ?_ | refine blk_alloc ?_ _)); exact BK372.out) hb); have n1_ := Aside0.mk (below_step (by repeat (first | (with_reducible first | exact HB.out | apply below_alloc | apply pw_below_drewN | apply below_drew1 | refine below_set ?_ GE372.out) | exact HB.out)) hb); clear BK372; clear HB; have BK372 := n0_; have HB := n1_; clear n0_ n1_; (try clear hb); (try clear hb2); (try clear hk); (try clear hi); have hcz24_0 : w23.cell? ⟨gb372, 0, none⟩ = some (.int .i64 ji6) := (blk_cell BK372.out 0).trans rfl; have hcz24_1 : w23.cell? ⟨gb372, 1, none⟩ = some (.int .i64 ji8) := (blk_cell BK372.out 1).trans rfl; have hcz24_2 : w23.cell? ⟨gb372, 2, none⟩ = some (.int .i64 a0_2) := (blk_cell BK372.out 2).trans rfl; have hcz24_3 : w23.cell? ⟨gb372, 3, none⟩ = some (.int .i64 a0_3) := (blk_cell BK372.out 3).trans rfl; have hcz24_4 : w23.cell? ⟨gb372, 4, none⟩ = some (.int .i64 a0_4) := (blk_cell BK372.out 4).trans rfl; have hfz24_0 := blk_frozen BK372.out 0; have hfz24_1 := blk_frozen BK372.out 1; have hfz24_2 := blk_frozen BK372.out 2; have hfz24_3 := blk_frozen BK372.out 3; have hfz24_4 := blk_frozen BK372.out 4) | ((with_reducible refine gate_callee (f := 31) rfl ?_); refine goesL_ (some 63) rfl rfl Try.func31 (by kernel_rfl) rfl #[.int .i64 ji6, .int .i64 ji8, .int .i64 a0_2, .int .i64 (wrap64 (a0_2 + (Int.tmod (wrap64 (a1)) 2000))), .int .i64 x5_2] rfl (by (try simp only [List.map_toArray, List.map_cons, List.map_nil]); first | done | (simp only [hji6, hji8]; rfl) | rfl | (simp only [List.length_drop, List.length_take]; rfl)) ?_; (with_reducible refine (count_Accrue.calls k2 ji6 ji8 a0_2 (wrap64 (a0_2 + (Int.tmod (wrap64 (a1)) 2000))) x5_2 t376 t377 _ A19.out).mono ?_); rintro e w25 ⟨rfl, hb⟩; refine ⟨_, rfl, ?_⟩; have n0_ := Aside0.mk (blk_below (g := gb372) (o := .cells #[.int .i64 ji6, .int .i64 ji8, .int .i64 a0_2, .int .i64 a0_3, .int .i64 a0_4] 42 (0, 0)) (by (with_reducible repeat (first | refine blk_drewN ?_ _ | refine blk_drew ?_ | refine blk_alloc ?_ _)); exact BK372.out) hb); have n1_ := Aside0.mk (below_step (by repeat (first | (with_reducible first | exact HB.out | apply below_alloc | apply pw_below_drewN | apply below_drew1 | refine below_set ?_ GE372.out) | exact HB.out)) hb); clear BK372; clear HB; have BK372 := n0_; have HB := n1_; clear n0_ n1_; (try clear hb); (try clear hb2); (try clear hk); (try clear hi); have hcz26_0 : w25.cell? ⟨gb372, 0, none⟩ = some (.int .i64 ji6) := (blk_cell BK372.out 0).trans rfl; have hcz26_1 : w25.cell? ⟨gb372, 1, none⟩ = some (.int .i64 ji8) := (blk_cell BK372.out 1).trans rfl; have hcz26_2 : w25.cell? ⟨gb372, 2, none⟩ = some (.int .i64 a0_2) := (blk_cell BK372.out 2).trans rfl; have hcz26_3 : w25.cell? ⟨gb372, 3, none⟩ = some (.int .i64 a0_3) := (blk_cell BK372.out 3).trans rfl; have hcz26_4 : w25.cell? ⟨gb372, 4, none⟩ = some (.int .i64 a0_4) := (blk_cell BK372.out 4).trans rfl; have hfz26_0 := blk_frozen BK372.out 0; have hfz26_1 := blk_frozen BK372.out 1; have hfz26_2 := blk_frozen BK372.out 2; have hfz26_3 := blk_frozen BK372.out 3; have hfz26_4 := blk_frozen BK372.out 4) | ((with_reducible refine gate_callee (f := 31) rfl ?_); refine goesL_ (some 81) rfl rfl Try.func31 (by kernel_rfl) rfl #[.int .i64 ji6, .int .i64 ji8, .int .i64 a0_2, .int .i64 (wrap64 ((wrap64 (a0_2 + (Int.tmod (wrap64 (a1)) 2000))) + 5)), .int .i64 x5_2] rfl (by (try simp only [List.map_toArray, List.map_cons, List.map_nil]); first | done | (simp only [hji6, hji8]; rfl) | rfl | (simp only [List.length_drop, List.length_take]; rfl)) ?_; (with_reducible refine (count_Accrue.calls k2 ji6 ji8 a0_2 (wrap64 ((wrap64 (a0_2 + (Int.tmod (wrap64 (a1)) 2000))) + 5)) x5_2 t378 t379 _ A20.out).mono ?_); rintro e w27 ⟨rfl, hb⟩; refine ⟨_, rfl, ?_⟩; have n0_ := Aside0.mk (blk_below (g := gb372) (o := .cells #[.int .i64 ji6, .int .i64 ji8, .int .i64 a0_2, .int .i64 a0_3, .int .i64 a0_4] 42 (0, 0)) (by (with_reducible repeat (first | refine blk_drewN ?_ _ | refine blk_drew ?_ | refine blk_alloc ?_ _)); exact BK372.out) hb); have n1_ := Aside0.mk (below_step (by repeat (first | (with_reducible first | exact HB.out | apply below_alloc | apply pw_below_drewN | apply below_drew1 | refine below_set ?_ GE372.out) | exact HB.out)) hb); clear BK372; clear HB; have BK372 := n0_; have HB := n1_; clear n0_ n1_; (try clear hb); (try clear hb2); (try clear hk); (try clear hi)))
                have H := HC21.out
                clear HC21
                by_cases c28 : t375 = 0
                · rw [if_pos c28] at H
                  have c28b0 : (t375 == 0) = true := beq_iff_eq.mpr c28
                  have c28b1 : (t375 != 0) = false := bne_eq_false_iff_eq.mpr c28
                  clear c28
                  by_cases c29 : t377 = 0
                  · rw [if_pos c29] at H
                    have c29b0 : (t377 == 0) = true := beq_iff_eq.mpr c29
                    have c29b1 : (t377 != 0) = false := bne_eq_false_iff_eq.mpr c29
                    clear c29
                    by_cases c30 : t379 = 0
                    · rw [if_pos c30] at H
                      have c30b0 : (t379 == 0) = true := beq_iff_eq.mpr c30
                      have c30b1 : (t379 != 0) = false := bne_eq_false_iff_eq.mpr c30
                      clear c30
                      by_cases c31 : t374 = 0
                      · rw [if_pos c31] at H
                        have c31b0 : (t374 == 0) = true := beq_iff_eq.mpr c31
                        have c31b1 : (t374 != 0) = false := bne_eq_false_iff_eq.mpr c31
                        clear c31
                        by_cases c32 : t376 < 0
                        · rw [if_pos c32] at H
                          have c32b0 : decide (t376 < 0) = true := decide_eq_true c32
                          clear c32
                          obtain rfl := Option.some.inj H
                          go_wp2
                          go_ret
                          exact ⟨by first | rfl | (simp [errW_none, errW_some] <;> rfl) | (simp only [← hji5, ← hji6, ← hji7, ← hji8]; first | rfl | (simp [errW_none, errW_some] <;> rfl)) | (simp [*, errW_none, errW_some] <;> rfl), by repeat (first | (with_reducible first | exact HB.out | apply below_alloc | apply pw_below_drewN | apply below_drew1 | refine below_set ?_ GE372.out) | exact HB.out)⟩
                        · rw [if_neg c32] at H
                          have c32b0 : decide (t376 < 0) = false := decide_eq_false c32
                          clear c32
                          by_cases c33 : t378 < t376
                          · rw [if_pos c33] at H
                            have c33b0 : decide (t378 < t376) = true := decide_eq_true c33
                            clear c33
                            obtain rfl := Option.some.inj H
                            go_wp2
                            go_ret
                            exact ⟨by first | rfl | (simp [errW_none, errW_some] <;> rfl) | (simp only [← hji5, ← hji6, ← hji7, ← hji8]; first | rfl | (simp [errW_none, errW_some] <;> rfl)) | (simp [*, errW_none, errW_some] <;> rfl), by repeat (first | (with_reducible first | exact HB.out | apply below_alloc | apply pw_below_drewN | apply below_drew1 | refine below_set ?_ GE372.out) | exact HB.out)⟩
                          · rw [if_neg c33] at H
                            have c33b0 : decide (t378 < t376) = false := decide_eq_false c33
                            clear c33
                            have H' := Aside0.mk H
                            clear H
                            go_wp2
                            go_roundg k2
                            case measure => have := HJ8.out; have := HK2.out; omega
                            case rel => exact ⟨(wrap64 (x5_2 + 1)), (by first | rfl | (simp; done) | (simp [*]; done)), H', ⟨by have := HJ8.out; have := HK2.out; omega⟩, ⟨by (with_reducible repeat (first | refine blk_drewN ?_ _ | refine blk_drew ?_ | refine blk_alloc ?_ _)); exact BK372.out⟩, ⟨by repeat (first | (with_reducible first | exact HB.out | apply below_alloc | apply pw_below_drewN | apply below_drew1 | refine below_set ?_ GE372.out) | exact HB.out)⟩⟩
                      · rw [if_neg c31] at H
                        have c31b0 : (t374 == 0) = false := beq_eq_false_iff_ne.mpr c31
                        have c31b1 : (t374 != 0) = true := bne_iff_ne.mpr c31
                        obtain rfl := Option.some.inj H
                        go_wp2
                        go_ret
                        exact ⟨by first | rfl | (simp [errW_none, errW_some] <;> rfl) | (simp only [← hji5, ← hji6, ← hji7, ← hji8]; first | rfl | (simp [errW_none, errW_some] <;> rfl)) | (simp [*, errW_none, errW_some] <;> rfl), by repeat (first | (with_reducible first | exact HB.out | apply below_alloc | apply pw_below_drewN | apply below_drew1 | refine below_set ?_ GE372.out) | exact HB.out)⟩
                    · rw [if_neg c30] at H
                      have c30b0 : (t379 == 0) = false := beq_eq_false_iff_ne.mpr c30
                      have c30b1 : (t379 != 0) = true := bne_iff_ne.mpr c30
                      obtain rfl := Option.some.inj H
                      go_wp2
                      go_ret
                      exact ⟨by first | rfl | (simp [errW_none, errW_some] <;> rfl) | (simp only [← hji5, ← hji6, ← hji7, ← hji8]; first | rfl | (simp [errW_none, errW_some] <;> rfl)) | (simp [*, errW_none, errW_some] <;> rfl), by repeat (first | (with_reducible first | exact HB.out | apply below_alloc | apply pw_below_drewN | apply below_drew1 | refine below_set ?_ GE372.out) | exact HB.out)⟩
                  · rw [if_neg c29] at H
                    have c29b0 : (t377 == 0) = false := beq_eq_false_iff_ne.mpr c29
                    have c29b1 : (t377 != 0) = true := bne_iff_ne.mpr c29
                    obtain rfl := Option.some.inj H
                    go_wp2
                    go_ret
                    exact ⟨by first | rfl | (simp [errW_none, errW_some] <;> rfl) | (simp only [← hji5, ← hji6, ← hji7, ← hji8]; first | rfl | (simp [errW_none, errW_some] <;> rfl)) | (simp [*, errW_none, errW_some] <;> rfl), by repeat (first | (with_reducible first | exact HB.out | apply below_alloc | apply pw_below_drewN | apply below_drew1 | refine below_set ?_ GE372.out) | exact HB.out)⟩
                · rw [if_neg c28] at H
                  have c28b0 : (t375 == 0) = false := beq_eq_false_iff_ne.mpr c28
                  have c28b1 : (t375 != 0) = true := bne_iff_ne.mpr c28
                  obtain rfl := Option.some.inj H
                  go_wp2
                  go_ret
                  exact ⟨by first | rfl | (simp [errW_none, errW_some] <;> rfl) | (simp only [← hji5, ← hji6, ← hji7, ← hji8]; first | rfl | (simp [errW_none, errW_some] <;> rfl)) | (simp [*, errW_none, errW_some] <;> rfl), by repeat (first | (with_reducible first | exact HB.out | apply below_alloc | apply pw_below_drewN | apply below_drew1 | refine below_set ?_ GE372.out) | exact HB.out)⟩
              · rw [if_neg c17] at H
                have c17b0 : decide (x5_2 ≤ 3) = false := decide_eq_false c17
                clear c17
                obtain rfl := Option.some.inj H
                go_wp2
                go_ret
                exact ⟨by first | rfl | (simp [errW_none, errW_some] <;> rfl) | (simp only [← hji5, ← hji6, ← hji7, ← hji8]; first | rfl | (simp [errW_none, errW_some] <;> rfl)) | (simp [*, errW_none, errW_some] <;> rfl), by repeat (first | (with_reducible first | exact HB.out | apply below_alloc | apply pw_below_drewN | apply below_drew1 | refine below_set ?_ GE372.out) | exact HB.out)⟩
  · replace c4 := Bool.eq_false_iff.mpr c4
    subst c4
    have H1 : (some false) = some r := by rw [if_neg (show ¬ (false = true) by decide)] at H; exact H
    clear H
    have H := H1
    clear H1
    obtain rfl := Option.some.inj H
    go_enter Try.func12, Try.ntmps12
    go_wp2_with (first | ((with_reducible refine gate_dst (N := 2) rfl ?_); refine box_event ?hg (N := 2) ?hd (cs := #[.int .i64 a0_0, .int .i64 a0_1, .int .i64 a0_2, .int .i64 a0_3, .int .i64 a0_4]) (t := 42) ?hr ?_; (case hd => rfl); (case hg => rfl); (case hr => first | (go_simp; done) | (go_simp; rfl)); intro gb372 hg w34 hbox hb; have n0_ := Aside0.mk (below_step (by repeat (first | (with_reducible first | exact HB.out | apply below_alloc | apply pw_below_drewN | apply below_drew1) | exact HB.out)) hb); have n1_ := Aside0.mk (hbox); have n2_ := Aside0.mk ((by rw [hg]; exact (below_size (by repeat (first | (with_reducible first | exact HB.out | apply below_alloc | apply pw_below_drewN | apply below_drew1) | exact HB.out))) : w.heap.size ≤ gb372)); have n3_ := Aside0.mk ((by rw [hg]; exact (below_size (by repeat (first | (with_reducible first | exact HB.out | apply below_alloc | apply pw_below_drewN | apply below_drew1) | exact HB.out))) : w.heap.size ≤ gb372)); clear HB; have HB := n0_; have BK372 := n1_; have GW372 := n2_; have GE372 := n3_; clear n0_ n1_ n2_ n3_; clear hb hbox hg) | ((with_reducible refine gate_callee (f := 28) rfl ?_); refine goesL_ (some 12) rfl rfl Try.func28 (by kernel_rfl) rfl #[] rfl (by (try simp only [List.map_toArray, List.map_cons, List.map_nil]); first | done | rfl | (simp only [List.length_drop, List.length_take]; rfl)) ?_; (with_reducible refine (lombardlaw05_alive.calls k  false _ A3.out).mono ?_); rintro e w35 ⟨rfl, hb⟩; refine ⟨_, rfl, ?_⟩; have n0_ := Aside0.mk (blk_below (g := gb372) (o := .cells #[.int .i64 a0_0, .int .i64 a0_1, .int .i64 a0_2, .int .i64 a0_3, .int .i64 a0_4] 42 (0, 0)) (by (with_reducible repeat (first | refine blk_drewN ?_ _ | refine blk_drew ?_ | refine blk_alloc ?_ _)); exact BK372.out) hb); have n1_ := Aside0.mk (below_step (by repeat (first | (with_reducible first | exact HB.out | apply below_alloc | apply pw_below_drewN | apply below_drew1 | refine below_set ?_ GE372.out) | exact HB.out)) hb); clear BK372; clear HB; have BK372 := n0_; have HB := n1_; clear n0_ n1_; (try clear hb); (try clear hb2); (try clear hk); (try clear hi)))
    go_ret
    exact ⟨by first | rfl | (simp [errW_none, errW_some] <;> rfl) | (simp [*, errW_none, errW_some] <;> rfl), by repeat (first | (with_reducible first | exact HB.out | apply below_alloc | apply pw_below_drewN | apply below_drew1 | refine below_set ?_ GE372.out) | exact HB.out)⟩

/-- THE PURE STATEMENT of lombardlaw05_CountBrings. -/
def lombardlaw05_CountBrings.Pure : Prop := ∀ (a0_0 : Int) (a0_1 : Int) (a0_2 : Int) (a0_3 : Int) (a0_4 : Int) (a1 : Int), (Lit.int .i64 a0_0).wf = true → (Lit.int .i64 a0_1).wf = true → (Lit.int .i64 a0_2).wf = true → (Lit.int .i64 a0_3).wf = true → (Lit.int .i64 a0_4).wf = true → (Lit.int .u16 a1).wf = true → ∃ k, lombardlaw05_CountBrings.f k a0_0 a0_1 a0_2 a0_3 a0_4 a1 = some true
theorem lombardlaw05_CountBrings.walk (P : lombardlaw05_CountBrings.Pure) (a0_0 : Int) (a0_1 : Int) (a0_2 : Int) (a0_3 : Int) (a0_4 : Int) (a1 : Int) (w : World)  (hg0_0 : (Lit.int .i64 a0_0).wf = true) (hg0_1 : (Lit.int .i64 a0_1).wf = true) (hg0_2 : (Lit.int .i64 a0_2).wf = true) (hg0_3 : (Lit.int .i64 a0_3).wf = true) (hg0_4 : (Lit.int .i64 a0_4).wf = true) (hg1 : (Lit.int .u16 a1).wf = true) :
    Calls Try.prog 12 #[.agg #[.int .i64 a0_0, .int .i64 a0_1, .int .i64 a0_2, .int .i64 a0_3, .int .i64 a0_4], .int .u16 a1] w fun e w' => e = .returned (.bool true) ∧ Below w.heap.size w w' := by
  obtain ⟨k, h⟩ := P a0_0 a0_1 a0_2 a0_3 a0_4 a1 hg0_0 hg0_1 hg0_2 hg0_3 hg0_4 hg1
  refine (lombardlaw05_CountBrings.calls k a0_0 a0_1 a0_2 a0_3 a0_4 a1 true w  h).mono ?_
  rintro e w' ⟨rfl, hd⟩
  exact ⟨rfl, hd⟩

end Go.Proofs.Ytioicmialbimfaa.S
end
