/- Printed by a program of this session out of the translation: what each function called here computes, and that its call comes to just that. Conditions: none beyond those that each theorem names. -/
import Derived.Test.YtohbdjfabghagaaSx0
import Derived.Test.YtohbdjfabghagaaSxWideQuotientFloor
import Derived.Test.YtohbdjfabghagaaSxWideQuotientNear
import Derived.Test.YtohbdjfabghagaaSxWideTurned
import Derived.Test.YtohbdjfabghagaaSxMathBitsDiv64
import Derived.Test.YtohbdjfabghagaaSxMathBitsAdd64
namespace Go.Proofs.Ytohbdjfabghagaa.S
open Go.RowKit Go.Proofs.YtohbdjfabghagaaW.PrintWords Go.Proofs.YtohbdjfabghagaaW.PrintLast Go.Proofs.YtohbdjfabghagaaW.PrintMore
attribute [local go_sem] max2_int min2_int max_two min_two max_three min_three max_four min_four   -- for this text's walks alone
attribute [local go_sem] Go.Proofs.Ytohbdjfabghagaa.XWalk.cell2
set_option linter.unusedVariables false
set_option linter.unusedSimpArgs false

/-! ### wide_Div: function 16 -/
mutual
def wide_Div.j0 : Nat → Int → Int → Bool → Int → Int → Option (Int × Int)
  | 0, _, _, _, _, _ => none
  | k + 1, x1, x2, x15, x108000, x108001 => if x15 = true then (some (0, 2)) else (if x1 = 0 then (some (0, 4)) else (if x108000 < 0 then ((wide_turned.f x108000 x108001).bind fun bt110 => (wide_Div.j1 k x1 x2 (IntKind.u64.wrap (x1)) x108000 x108001 bt110.1 bt110.2)) else (wide_Div.j1 k x1 x2 (IntKind.u64.wrap (x1)) x108000 x108001 x108000 x108001)))
def wide_Div.j1 : Nat → Int → Int → Int → Int → Int → Int → Int → Option (Int × Int)
  | 0, _, _, _, _, _, _, _ => none
  | k + 1, x1, x2, x10, x108000, x108001, x110000, x110001 => if x1 < 0 then (wide_Div.j2 k x1 x2 (IntKind.u64.wrap (-x10)) x108000 x108001 x110000 x110001) else (wide_Div.j2 k x1 x2 x10 x108000 x108001 x110000 x110001)
def wide_Div.j2 : Nat → Int → Int → Int → Int → Int → Int → Int → Option (Int × Int)
  | 0, _, _, _, _, _, _, _ => none
  | k + 1, x1, x2, x10, x108000, x108001, x110000, x110001 => if x10 = 0 then (none) else ((math_bits_Div64.f k (Int.tmod (IntKind.u64.wrap (x110000)) x10) x110001 x10).bind fun bt113 => (if x2 = 0 then ((wide_quotient_floor.f (IntKind.u64.wrap (Int.tdiv (IntKind.u64.wrap (x110000)) x10)) bt113.1 bt113.2 x10 (!((decide (x108000 < 0)) == (decide (x1 < 0))))).bind fun t115 => (if t115 = true then (if 0 ≤ bt113.1 then (wide_Div.j3 k (IntKind.u64.wrap ((IntKind.u64.wrap (Int.tdiv (IntKind.u64.wrap (x110000)) x10)) + (Go.Proofs.Ytohbdjfabghagaa.XWalk.c64 bt113.1 1 0))) (Go.Proofs.Ytohbdjfabghagaa.XWalk.s64 bt113.1 1 0) bt113.2 x10 (!((decide (x108000 < 0)) == (decide (x1 < 0))))) else (none)) else (wide_Div.j3 k (IntKind.u64.wrap (Int.tdiv (IntKind.u64.wrap (x110000)) x10)) bt113.1 bt113.2 x10 (!((decide (x108000 < 0)) == (decide (x1 < 0))))))) else (if x2 = 1 then ((wide_quotient_near.f (IntKind.u64.wrap (Int.tdiv (IntKind.u64.wrap (x110000)) x10)) bt113.1 bt113.2 x10 (!((decide (x108000 < 0)) == (decide (x1 < 0))))).bind fun t116 => (if t116 = true then (if 0 ≤ bt113.1 then (wide_Div.j5 k (IntKind.u64.wrap ((IntKind.u64.wrap (Int.tdiv (IntKind.u64.wrap (x110000)) x10)) + (Go.Proofs.Ytohbdjfabghagaa.XWalk.c64 bt113.1 1 0))) (Go.Proofs.Ytohbdjfabghagaa.XWalk.s64 bt113.1 1 0) bt113.2 x10 (!((decide (x108000 < 0)) == (decide (x1 < 0))))) else (none)) else (wide_Div.j5 k (IntKind.u64.wrap (Int.tdiv (IntKind.u64.wrap (x110000)) x10)) bt113.1 bt113.2 x10 (!((decide (x108000 < 0)) == (decide (x1 < 0))))))) else (none))))
def wide_Div.j3 : Nat → Int → Int → Int → Int → Bool → Option (Int × Int)
  | 0, _, _, _, _, _ => none
  | k + 1, x113000, x113001, x113002, x113003, x113004 => if x113000 > 0 then (some (0, 3)) else (if x113004 = true then (wide_Div.j4 k (decide (x113001 ≤ 9223372036854775808)) x113000 x113001 x113002 x113003 x113004) else (wide_Div.j4 k false x113000 x113001 x113002 x113003 x113004))
def wide_Div.j4 : Nat → Bool → Int → Int → Int → Int → Bool → Option (Int × Int)
  | 0, _, _, _, _, _, _ => none
  | k + 1, x90, x113000, x113001, x113002, x113003, x113004 => if x90 = true then (some (wrap64 (IntKind.u64.wrap (-x113001)), 0)) else (if x113004 = true then (some (0, 3)) else (if x113001 < 9223372036854775808 then (some (wrap64 (x113001), 0)) else (some (0, 3))))
def wide_Div.j5 : Nat → Int → Int → Int → Int → Bool → Option (Int × Int)
  | 0, _, _, _, _, _ => none
  | k + 1, x113000, x113001, x113002, x113003, x113004 => if x113000 > 0 then (some (0, 3)) else (if x113004 = true then (wide_Div.j6 k (decide (x113001 ≤ 9223372036854775808)) x113000 x113001 x113002 x113003 x113004) else (wide_Div.j6 k false x113000 x113001 x113002 x113003 x113004))
def wide_Div.j6 : Nat → Bool → Int → Int → Int → Int → Bool → Option (Int × Int)
  | 0, _, _, _, _, _, _ => none
  | k + 1, x90, x113000, x113001, x113002, x113003, x113004 => if x90 = true then (some (wrap64 (IntKind.u64.wrap (-x113001)), 0)) else (if x113004 = true then (some (0, 3)) else (if x113001 < 9223372036854775808 then (some (wrap64 (x113001), 0)) else (some (0, 3))))
end
def wide_Div.f (k : Nat) (a0_0 : Int) (a0_1 : Int) (a1 : Int) (a2 : Int) : Option (Int × Int) := if a2 < 0 then (wide_Div.j0 k a1 a2 true a0_0 a0_1) else (wide_Div.j0 k a1 a2 (decide (a2 ≥ 2)) a0_0 a0_1)
theorem wide_Div.mono_l : ∀ k, (∀ y0 y1 y2 y3 y4, LeO (wide_Div.j0 k y0 y1 y2 y3 y4) (wide_Div.j0 (k + 1) y0 y1 y2 y3 y4)) ∧ (∀ y0 y1 y2 y3 y4 y5 y6, LeO (wide_Div.j1 k y0 y1 y2 y3 y4 y5 y6) (wide_Div.j1 (k + 1) y0 y1 y2 y3 y4 y5 y6)) ∧ (∀ y0 y1 y2 y3 y4 y5 y6, LeO (wide_Div.j2 k y0 y1 y2 y3 y4 y5 y6) (wide_Div.j2 (k + 1) y0 y1 y2 y3 y4 y5 y6)) ∧ (∀ y0 y1 y2 y3 y4, LeO (wide_Div.j3 k y0 y1 y2 y3 y4) (wide_Div.j3 (k + 1) y0 y1 y2 y3 y4)) ∧ (∀ y0 y1 y2 y3 y4 y5, LeO (wide_Div.j4 k y0 y1 y2 y3 y4 y5) (wide_Div.j4 (k + 1) y0 y1 y2 y3 y4 y5)) ∧ (∀ y0 y1 y2 y3 y4, LeO (wide_Div.j5 k y0 y1 y2 y3 y4) (wide_Div.j5 (k + 1) y0 y1 y2 y3 y4)) ∧ (∀ y0 y1 y2 y3 y4 y5, LeO (wide_Div.j6 k y0 y1 y2 y3 y4 y5) (wide_Div.j6 (k + 1) y0 y1 y2 y3 y4 y5))
  | 0 => ⟨fun _ _ _ _ _ r h => by simp [wide_Div.j0] at h, fun _ _ _ _ _ _ _ r h => by simp [wide_Div.j1] at h, fun _ _ _ _ _ _ _ r h => by simp [wide_Div.j2] at h, fun _ _ _ _ _ r h => by simp [wide_Div.j3] at h, fun _ _ _ _ _ _ r h => by simp [wide_Div.j4] at h, fun _ _ _ _ _ r h => by simp [wide_Div.j5] at h, fun _ _ _ _ _ _ r h => by simp [wide_Div.j6] at h⟩
  | k + 1 => by
    obtain ⟨ih0, ih1, ih2, ih3, ih4, ih5, ih6⟩ := wide_Div.mono_l k
    refine ⟨?_, ?_, ?_, ?_, ?_, ?_, ?_⟩
    · intro y0 y1 y2 y3 y4
      unfold wide_Div.j0
      repeat' first
      | (with_reducible exact ih0 _ _ _ _ _)
      | (with_reducible exact ih1 _ _ _ _ _ _ _)
      | (with_reducible exact ih2 _ _ _ _ _ _ _)
      | (with_reducible exact ih3 _ _ _ _ _)
      | (with_reducible exact ih4 _ _ _ _ _ _)
      | (with_reducible exact ih5 _ _ _ _ _)
      | (with_reducible exact ih6 _ _ _ _ _ _)
      | (with_reducible exact math_bits_Div64.mono _ _ _ _)
      | (with_reducible exact LeO.refl _)
      | (with_reducible exact LeO.none _)
      | (with_reducible refine LeO.ite ?_ ?_)
      | (with_reducible refine LeO.bind ?_ (fun _ => ?_))
      | exact ih0 _ _ _ _ _
      | exact ih1 _ _ _ _ _ _ _
      | exact ih2 _ _ _ _ _ _ _
      | exact ih3 _ _ _ _ _
      | exact ih4 _ _ _ _ _ _
      | exact ih5 _ _ _ _ _
      | exact ih6 _ _ _ _ _ _
      | exact math_bits_Div64.mono _ _ _ _
      | exact LeO.none _
      | refine LeO.ite ?_ ?_
      | refine LeO.bind ?_ (fun _ => ?_)
    · intro y0 y1 y2 y3 y4 y5 y6
      unfold wide_Div.j1
      repeat' first
      | (with_reducible exact ih0 _ _ _ _ _)
      | (with_reducible exact ih1 _ _ _ _ _ _ _)
      | (with_reducible exact ih2 _ _ _ _ _ _ _)
      | (with_reducible exact ih3 _ _ _ _ _)
      | (with_reducible exact ih4 _ _ _ _ _ _)
      | (with_reducible exact ih5 _ _ _ _ _)
      | (with_reducible exact ih6 _ _ _ _ _ _)
      | (with_reducible exact math_bits_Div64.mono _ _ _ _)
      | (with_reducible exact LeO.refl _)
      | (with_reducible exact LeO.none _)
      | (with_reducible refine LeO.ite ?_ ?_)
      | (with_reducible refine LeO.bind ?_ (fun _ => ?_))
      | exact ih0 _ _ _ _ _
      | exact ih1 _ _ _ _ _ _ _
      | exact ih2 _ _ _ _ _ _ _
      | exact ih3 _ _ _ _ _
      | exact ih4 _ _ _ _ _ _
      | exact ih5 _ _ _ _ _
      | exact ih6 _ _ _ _ _ _
      | exact math_bits_Div64.mono _ _ _ _
      | exact LeO.none _
      | refine LeO.ite ?_ ?_
      | refine LeO.bind ?_ (fun _ => ?_)
    · intro y0 y1 y2 y3 y4 y5 y6
      unfold wide_Div.j2
      repeat' first
      | (with_reducible exact ih0 _ _ _ _ _)
      | (with_reducible exact ih1 _ _ _ _ _ _ _)
      | (with_reducible exact ih2 _ _ _ _ _ _ _)
      | (with_reducible exact ih3 _ _ _ _ _)
      | (with_reducible exact ih4 _ _ _ _ _ _)
      | (with_reducible exact ih5 _ _ _ _ _)
      | (with_reducible exact ih6 _ _ _ _ _ _)
      | (with_reducible exact math_bits_Div64.mono _ _ _ _)
      | (with_reducible exact LeO.refl _)
      | (with_reducible exact LeO.none _)
      | (with_reducible refine LeO.ite ?_ ?_)
      | (with_reducible refine LeO.bind ?_ (fun _ => ?_))
      | exact ih0 _ _ _ _ _
      | exact ih1 _ _ _ _ _ _ _
      | exact ih2 _ _ _ _ _ _ _
      | exact ih3 _ _ _ _ _
      | exact ih4 _ _ _ _ _ _
      | exact ih5 _ _ _ _ _
      | exact ih6 _ _ _ _ _ _
      | exact math_bits_Div64.mono _ _ _ _
      | exact LeO.none _
      | refine LeO.ite ?_ ?_
      | refine LeO.bind ?_ (fun _ => ?_)
    · intro y0 y1 y2 y3 y4
      unfold wide_Div.j3
      repeat' first
      | (with_reducible exact ih0 _ _ _ _ _)
      | (with_reducible exact ih1 _ _ _ _ _ _ _)
      | (with_reducible exact ih2 _ _ _ _ _ _ _)
      | (with_reducible exact ih3 _ _ _ _ _)
      | (with_reducible exact ih4 _ _ _ _ _ _)
      | (with_reducible exact ih5 _ _ _ _ _)
      | (with_reducible exact ih6 _ _ _ _ _ _)
      | (with_reducible exact math_bits_Div64.mono _ _ _ _)
      | (with_reducible exact LeO.refl _)
      | (with_reducible exact LeO.none _)
      | (with_reducible refine LeO.ite ?_ ?_)
      | (with_reducible refine LeO.bind ?_ (fun _ => ?_))
      | exact ih0 _ _ _ _ _
      | exact ih1 _ _ _ _ _ _ _
      | exact ih2 _ _ _ _ _ _ _
      | exact ih3 _ _ _ _ _
      | exact ih4 _ _ _ _ _ _
      | exact ih5 _ _ _ _ _
      | exact ih6 _ _ _ _ _ _
      | exact math_bits_Div64.mono _ _ _ _
      | exact LeO.none _
      | refine LeO.ite ?_ ?_
      | refine LeO.bind ?_ (fun _ => ?_)
    · intro y0 y1 y2 y3 y4 y5
      unfold wide_Div.j4
      repeat' first
      | (with_reducible exact ih0 _ _ _ _ _)
      | (with_reducible exact ih1 _ _ _ _ _ _ _)
      | (with_reducible exact ih2 _ _ _ _ _ _ _)
      | (with_reducible exact ih3 _ _ _ _ _)
      | (with_reducible exact ih4 _ _ _ _ _ _)
      | (with_reducible exact ih5 _ _ _ _ _)
      | (with_reducible exact ih6 _ _ _ _ _ _)
      | (with_reducible exact math_bits_Div64.mono _ _ _ _)
      | (with_reducible exact LeO.refl _)
      | (with_reducible exact LeO.none _)
      | (with_reducible refine LeO.ite ?_ ?_)
      | (with_reducible refine LeO.bind ?_ (fun _ => ?_))
      | exact ih0 _ _ _ _ _
      | exact ih1 _ _ _ _ _ _ _
      | exact ih2 _ _ _ _ _ _ _
      | exact ih3 _ _ _ _ _
      | exact ih4 _ _ _ _ _ _
      | exact ih5 _ _ _ _ _
      | exact ih6 _ _ _ _ _ _
      | exact math_bits_Div64.mono _ _ _ _
      | exact LeO.none _
      | refine LeO.ite ?_ ?_
      | refine LeO.bind ?_ (fun _ => ?_)
    · intro y0 y1 y2 y3 y4
      unfold wide_Div.j5
      repeat' first
      | (with_reducible exact ih0 _ _ _ _ _)
      | (with_reducible exact ih1 _ _ _ _ _ _ _)
      | (with_reducible exact ih2 _ _ _ _ _ _ _)
      | (with_reducible exact ih3 _ _ _ _ _)
      | (with_reducible exact ih4 _ _ _ _ _ _)
      | (with_reducible exact ih5 _ _ _ _ _)
      | (with_reducible exact ih6 _ _ _ _ _ _)
      | (with_reducible exact math_bits_Div64.mono _ _ _ _)
      | (with_reducible exact LeO.refl _)
      | (with_reducible exact LeO.none _)
      | (with_reducible refine LeO.ite ?_ ?_)
      | (with_reducible refine LeO.bind ?_ (fun _ => ?_))
      | exact ih0 _ _ _ _ _
      | exact ih1 _ _ _ _ _ _ _
      | exact ih2 _ _ _ _ _ _ _
      | exact ih3 _ _ _ _ _
      | exact ih4 _ _ _ _ _ _
      | exact ih5 _ _ _ _ _
      | exact ih6 _ _ _ _ _ _
      | exact math_bits_Div64.mono _ _ _ _
      | exact LeO.none _
      | refine LeO.ite ?_ ?_
      | refine LeO.bind ?_ (fun _ => ?_)
    · intro y0 y1 y2 y3 y4 y5
      unfold wide_Div.j6
      repeat' first
      | (with_reducible exact ih0 _ _ _ _ _)
      | (with_reducible exact ih1 _ _ _ _ _ _ _)
      | (with_reducible exact ih2 _ _ _ _ _ _ _)
      | (with_reducible exact ih3 _ _ _ _ _)
      | (with_reducible exact ih4 _ _ _ _ _ _)
      | (with_reducible exact ih5 _ _ _ _ _)
      | (with_reducible exact ih6 _ _ _ _ _ _)
      | (with_reducible exact math_bits_Div64.mono _ _ _ _)
      | (with_reducible exact LeO.refl _)
      | (with_reducible exact LeO.none _)
      | (with_reducible refine LeO.ite ?_ ?_)
      | (with_reducible refine LeO.bind ?_ (fun _ => ?_))
      | exact ih0 _ _ _ _ _
      | exact ih1 _ _ _ _ _ _ _
      | exact ih2 _ _ _ _ _ _ _
      | exact ih3 _ _ _ _ _
      | exact ih4 _ _ _ _ _ _
      | exact ih5 _ _ _ _ _
      | exact ih6 _ _ _ _ _ _
      | exact math_bits_Div64.mono _ _ _ _
      | exact LeO.none _
      | refine LeO.ite ?_ ?_
      | refine LeO.bind ?_ (fun _ => ?_)
theorem wide_Div.mono : ∀ a0 a1 a2 a3 k, LeO (wide_Div.f k a0 a1 a2 a3) (wide_Div.f (k + 1) a0 a1 a2 a3) := by
  intro a0 a1 a2 a3 k
  obtain ⟨ih0, ih1, ih2, ih3, ih4, ih5, ih6⟩ := wide_Div.mono_l k
  unfold wide_Div.f
  repeat' first
      | (with_reducible exact ih0 _ _ _ _ _)
      | (with_reducible exact ih1 _ _ _ _ _ _ _)
      | (with_reducible exact ih2 _ _ _ _ _ _ _)
      | (with_reducible exact ih3 _ _ _ _ _)
      | (with_reducible exact ih4 _ _ _ _ _ _)
      | (with_reducible exact ih5 _ _ _ _ _)
      | (with_reducible exact ih6 _ _ _ _ _ _)
      | (with_reducible exact math_bits_Div64.mono _ _ _ _)
      | (with_reducible exact LeO.refl _)
      | (with_reducible exact LeO.none _)
      | (with_reducible refine LeO.ite ?_ ?_)
      | (with_reducible refine LeO.bind ?_ (fun _ => ?_))
      | exact ih0 _ _ _ _ _
      | exact ih1 _ _ _ _ _ _ _
      | exact ih2 _ _ _ _ _ _ _
      | exact ih3 _ _ _ _ _
      | exact ih4 _ _ _ _ _ _
      | exact ih5 _ _ _ _ _
      | exact ih6 _ _ _ _ _ _
      | exact math_bits_Div64.mono _ _ _ _
      | exact LeO.none _
      | refine LeO.ite ?_ ?_
      | refine LeO.bind ?_ (fun _ => ?_)
def wide_Div.T12 : Bool × List (List Nat × List Nat) := (true, [([], []), ([0], [0]), ([1], [1]), ([], []), ([2, 3], [2, 3]), ([], []), ([5], [5]), ([6], [6]), ([], []), ([7, 8], [7, 8]), ([0, 1, 2, 3, 4], []), ([10, 4, 0, 1, 2, 3, 4], [4, 10]), ([0, 1, 2, 3, 4, 5, 6, 7, 8, 9, 10, 11], []), ([12, 9, 11, 0, 1, 2, 3, 4, 5, 6, 7, 8, 9, 10, 11], [9, 12])])
def wide_Div.B12 : List Nat := [0, 1, 3, 0, 15, 0, 32, 96, 0, 480, 31, 1055, 4095, 8191]
theorem wide_Div.tab12 : rtab .any (opsOf Try.f16 12) = wide_Div.T12 := by kernel_rfl
theorem wide_Div.bits12 : waitsOk wide_Div.T12.2 wide_Div.B12 = true := by kernel_rfl
set_option maxHeartbeats 8000000 in
set_option maxRecDepth 100000 in
theorem wide_Div.calls (k : Nat) (a0_0 : Int) (a0_1 : Int) (a1 : Int) (a2 : Int) (r1 : Int) (r2 : Int) (w : World) (h : wide_Div.f k a0_0 a0_1 a1 a2 = some (r1, r2)) :
    Calls Try.prog 16 #[.agg #[.int .i64 a0_0, .int .u64 a0_1], .int .i64 a1, .int .i64 a2] w fun e w' => e = .returned (.tuple #[.int .i64 r1, .int .i64 r2]) ∧ Below w.heap.size w w' := by
  have hu24 := Try.underlying24
  have hu67 := Try.underlying67
  have HB := Aside0.mk (Below.refl w.heap.size w)
  have H : (if a2 < 0 then (wide_Div.j0 k a1 a2 true a0_0 a0_1) else (wide_Div.j0 k a1 a2 (decide (a2 ≥ 2)) a0_0 a0_1)) = some (r1, r2) := h
  clear h
  have HC4 := Aside0.mk H
  clear H
  go_enter Try.func16, Try.ntmps16
  go_upto_region 2 with (first | ((with_reducible refine gate_dst (N := 3) rfl ?_); refine box_event ?hg (N := 3) ?hd (cs := #[.int .i64 a0_0, .int .u64 a0_1]) (t := 24) ?hr ?_; (case hd => rfl); (case hg => rfl); (case hr => first | (go_simp; done) | (go_simp; rfl)); intro gb107 hg w5 hbox hb; have n0_ := Aside0.mk (below_step (by repeat (first | (with_reducible first | exact HB.out | apply below_alloc | apply pw_below_drewN | apply below_drew1) | exact HB.out)) hb); have n1_ := Aside0.mk (hbox); have n2_ := Aside0.mk ((by rw [hg]; exact (below_size (by repeat (first | (with_reducible first | exact HB.out | apply below_alloc | apply pw_below_drewN | apply below_drew1) | exact HB.out))) : w.heap.size ≤ gb107)); have n3_ := Aside0.mk ((by rw [hg]; exact (below_size (by repeat (first | (with_reducible first | exact HB.out | apply below_alloc | apply pw_below_drewN | apply below_drew1) | exact HB.out))) : w.heap.size ≤ gb107)); clear HB; have HB := n0_; have BK107 := n1_; have GW107 := n2_; have GE107 := n3_; clear n0_ n1_ n2_ n3_; clear hb hbox hg) | ((with_reducible refine gate_dst (N := 8) rfl ?_); refine box_event ?hg (N := 8) ?hd (cs := #[Value.nilFunc, Value.nilFunc]) (t := 68) ?hr ?_; (case hd => rfl); (case hg => rfl); (case hr => first | (go_simp; done) | (go_simp; rfl)); intro gb108 hg w6 hbox hb; have n0_ := Aside0.mk (blk_below (g := gb107) (o := .cells #[.int .i64 a0_0, .int .u64 a0_1] 24 (0, 0)) (by (with_reducible repeat (first | refine blk_drewN ?_ _ | refine blk_drew ?_ | refine blk_alloc ?_ _)); exact BK107.out) hb); have n1_ := Aside0.mk (below_step (by repeat (first | (with_reducible first | exact HB.out | apply below_alloc | apply pw_below_drewN | apply below_drew1 | refine below_set ?_ GE107.out) | exact HB.out)) hb); have n2_ := Aside0.mk (hbox); have n3_ := Aside0.mk ((by rw [hg]; exact (below_size (by repeat (first | (with_reducible first | exact HB.out | apply below_alloc | apply pw_below_drewN | apply below_drew1 | refine below_set ?_ GE107.out) | exact HB.out))) : w.heap.size ≤ gb108)); have n4_ := Aside0.mk ((by rw [hg]; exact (below_size (by repeat (first | (with_reducible first | exact HB.out | apply below_alloc | apply pw_below_drewN | apply below_drew1 | refine below_set ?_ GE107.out) | exact HB.out))) : w.heap.size ≤ gb108)); have n5_ := Aside0.mk ((by rw [hg]; exact Nat.ne_of_lt (blk_lt (g := gb107) (o := .cells #[.int .i64 a0_0, .int .u64 a0_1] 24 (0, 0)) (by (with_reducible repeat (first | refine blk_drewN ?_ _ | refine blk_drew ?_ | refine blk_alloc ?_ _)); exact BK107.out)) : gb107 ≠ gb108)); have n6_ := Aside0.mk ((by rw [hg]; exact Nat.ne_of_gt (blk_lt (g := gb107) (o := .cells #[.int .i64 a0_0, .int .u64 a0_1] 24 (0, 0)) (by (with_reducible repeat (first | refine blk_drewN ?_ _ | refine blk_drew ?_ | refine blk_alloc ?_ _)); exact BK107.out)) : gb108 ≠ gb107)); clear BK107; clear HB; have BK107 := n0_; have HB := n1_; have BK108 := n2_; have GW108 := n3_; have GE108 := n4_; have NB107_108 := n5_; have NB108_107 := n6_; clear n0_ n1_ n2_ n3_ n4_ n5_ n6_; clear hb hbox hg; have hnb7 := NB108_107.out; have hnc7 := NB107_108.out; have hcz8_0 : w6.cell? ⟨gb108, 0, none⟩ = some (Value.nilFunc) := (blk_cell BK108.out 0).trans rfl; have hcz8_1 : w6.cell? ⟨gb108, 1, none⟩ = some (Value.nilFunc) := (blk_cell BK108.out 1).trans rfl; have hfz8_0 := blk_frozen BK108.out 0; have hfz8_1 := blk_frozen BK108.out 1))
  (try simp only [Act.put, List.setIfInBounds_toArray, List.set_cons_zero, List.set_cons_succ])
  go_cut [15] (fun v15 wc => ∃ (kq : Nat) (x15_3 : Bool), v15 = .bool x15_3 ∧ Aside0 (wide_Div.j0 kq a1 a2 x15_3 a0_0 a0_1 = some (r1, r2)) ∧ Aside0 (kq ≤ k) ∧ Aside0 (wc.heap[gb107]? = some (.cells #[.int .i64 a0_0, .int .u64 a0_1] 24 (0, 0))) ∧ Aside0 (wc.heap[gb108]? = some (.cells #[.func (.func 46) #[] #[], .func (.func 47) #[] #[]] 68 (0, 0))) ∧ Aside0 (Below w.heap.size w wc))
  case first =>
    have H := HC4.out
    clear HC4
    by_cases c9 : a2 < 0
    · rw [if_pos c9] at H
      have c9b0 : decide (a2 < 0) = true := decide_eq_true c9
      clear c9
      (first | rw [c9b0] | (simp only [i64_w, i32_w]; rw [c9b0]) | skip)
      have H' := Aside0.mk H
      clear H
      go_wp2
      go_meet
      case rel => exact ⟨_, (true), (by first | rfl | (simp; done) | (simp [*]; done)), H', ⟨by first | omega | exact Nat.le_refl _⟩, ⟨by (with_reducible repeat (first | refine blk_drewN ?_ _ | refine blk_drew ?_ | refine blk_alloc ?_ _)); refine blk_far ?_ NB107_108.out _; (with_reducible repeat (first | refine blk_drewN ?_ _ | refine blk_drew ?_ | refine blk_alloc ?_ _)); refine blk_far ?_ NB107_108.out _; (with_reducible repeat (first | refine blk_drewN ?_ _ | refine blk_drew ?_ | refine blk_alloc ?_ _)); exact BK107.out⟩, ⟨by (with_reducible repeat (first | refine blk_drewN ?_ _ | refine blk_drew ?_ | refine blk_alloc ?_ _)); refine blk_put (cs := #[.func (.func 46) #[] #[], Value.nilFunc]) ?_ 1 _ rfl; (with_reducible repeat (first | refine blk_drewN ?_ _ | refine blk_drew ?_ | refine blk_alloc ?_ _)); refine blk_put (cs := #[Value.nilFunc, Value.nilFunc]) ?_ 0 _ rfl; (with_reducible repeat (first | refine blk_drewN ?_ _ | refine blk_drew ?_ | refine blk_alloc ?_ _)); exact BK108.out⟩, ⟨by repeat (first | (with_reducible first | exact HB.out | apply below_alloc | apply pw_below_drewN | apply below_drew1 | refine below_set ?_ GE107.out | refine below_set ?_ GE108.out) | exact HB.out)⟩⟩
    · rw [if_neg c9] at H
      have c9b0 : decide (a2 < 0) = false := decide_eq_false c9
      clear c9
      (first | rw [c9b0] | (simp only [i64_w, i32_w]; rw [c9b0]) | skip)
      have H' := Aside0.mk H
      clear H
      go_wp2
      go_meet
      case rel => exact ⟨_, (decide (a2 ≥ 2)), (by first | rfl | (simp; done) | (simp [*]; done)), H', ⟨by first | omega | exact Nat.le_refl _⟩, ⟨by (with_reducible repeat (first | refine blk_drewN ?_ _ | refine blk_drew ?_ | refine blk_alloc ?_ _)); refine blk_far ?_ NB107_108.out _; (with_reducible repeat (first | refine blk_drewN ?_ _ | refine blk_drew ?_ | refine blk_alloc ?_ _)); refine blk_far ?_ NB107_108.out _; (with_reducible repeat (first | refine blk_drewN ?_ _ | refine blk_drew ?_ | refine blk_alloc ?_ _)); exact BK107.out⟩, ⟨by (with_reducible repeat (first | refine blk_drewN ?_ _ | refine blk_drew ?_ | refine blk_alloc ?_ _)); refine blk_put (cs := #[.func (.func 46) #[] #[], Value.nilFunc]) ?_ 1 _ rfl; (with_reducible repeat (first | refine blk_drewN ?_ _ | refine blk_drew ?_ | refine blk_alloc ?_ _)); refine blk_put (cs := #[Value.nilFunc, Value.nilFunc]) ?_ 0 _ rfl; (with_reducible repeat (first | refine blk_drewN ?_ _ | refine blk_drew ?_ | refine blk_alloc ?_ _)); exact BK108.out⟩, ⟨by repeat (first | (with_reducible first | exact HB.out | apply below_alloc | apply pw_below_drewN | apply below_drew1 | refine below_set ?_ GE107.out | refine below_set ?_ GE108.out) | exact HB.out)⟩⟩
  case rest =>
    clear HC4
    try clear c1
    try clear p2
    try clear c7
    try clear c9
    try clear c9b0
    try clear hcz8_0
    try clear hcz8_1
    try clear hfz8_0
    try clear hfz8_1
    obtain ⟨kq, x15_3, rfl, HA, HJ3, BK107, BK108, HB⟩ := hcut
    cases kq with
    | zero => exact absurd HA.out (by simp [wide_Div.j0])
    | succ kj3 =>
      have H := HA.out
      clear HA
      simp only [wide_Div.j0] at H
      by_cases c10 : x15_3 = true
      · subst c10
        have H1 : (some (0, 2)) = some (r1, r2) := by rw [if_pos rfl] at H; exact H
        clear H
        have H := H1
        clear H1
        simp only [Option.some.injEq, Prod.mk.injEq] at H
        obtain ⟨rfl, rfl⟩ := H
        go_wp2
        go_ret2
        exact ⟨by first | rfl | (simp [errW_none, errW_some] <;> rfl) | (simp [*, errW_none, errW_some] <;> rfl), by repeat (first | (with_reducible first | exact HB.out | apply below_alloc | apply pw_below_drewN | apply below_drew1 | refine below_set ?_ GE107.out | refine below_set ?_ GE108.out) | exact HB.out)⟩
      · replace c10 := Bool.eq_false_iff.mpr c10
        subst c10
        have H1 : (if a1 = 0 then (some (0, 4)) else (if a0_0 < 0 then ((wide_turned.f a0_0 a0_1).bind fun bt110 => (wide_Div.j1 kj3 a1 a2 (IntKind.u64.wrap (a1)) a0_0 a0_1 bt110.1 bt110.2)) else (wide_Div.j1 kj3 a1 a2 (IntKind.u64.wrap (a1)) a0_0 a0_1 a0_0 a0_1))) = some (r1, r2) := by rw [if_neg (show ¬ (false = true) by decide)] at H; exact H
        clear H
        have H := H1
        clear H1
        by_cases c11 : a1 = 0
        · rw [if_pos c11] at H
          have c11b0 : (a1 == 0) = true := beq_iff_eq.mpr c11
          have c11b1 : (a1 != 0) = false := bne_eq_false_iff_eq.mpr c11
          clear c11
          simp only [Option.some.injEq, Prod.mk.injEq] at H
          obtain ⟨rfl, rfl⟩ := H
          go_wp2
          go_ret2
          exact ⟨by first | rfl | (simp [errW_none, errW_some] <;> rfl) | (simp [*, errW_none, errW_some] <;> rfl), by repeat (first | (with_reducible first | exact HB.out | apply below_alloc | apply pw_below_drewN | apply below_drew1 | refine below_set ?_ GE107.out | refine below_set ?_ GE108.out) | exact HB.out)⟩
        · rw [if_neg c11] at H
          have c11b0 : (a1 == 0) = false := beq_eq_false_iff_ne.mpr c11
          have c11b1 : (a1 != 0) = true := bne_iff_ne.mpr c11
          have HC12 := Aside0.mk H
          clear H
          have hnb13 := NB107_108.out
          have hnc13 := NB108_107.out
          have hcz14_0 : wc.cell? ⟨gb107, 0, none⟩ = some (.int .i64 a0_0) := (blk_cell BK107.out 0).trans rfl
          have hcz14_1 : wc.cell? ⟨gb107, 1, none⟩ = some (.int .u64 a0_1) := (blk_cell BK107.out 1).trans rfl
          have hfz14_0 := blk_frozen BK107.out 0
          have hfz14_1 := blk_frozen BK107.out 1
          go_upto_if 30 with (first | ((with_reducible refine gate_dst (N := 9) rfl ?_); refine box_event ?hg (N := 9) ?hd (cs := #[.int .i64 0, .int .u64 0]) (t := 24) ?hr ?_; (case hd => rfl); (case hg => rfl); (case hr => first | (go_simp; done) | (go_simp; rfl)); intro gb109 hg w15 hbox hb; have n0_ := Aside0.mk (blk_below (g := gb107) (o := .cells #[.int .i64 a0_0, .int .u64 a0_1] 24 (0, 0)) (by (with_reducible repeat (first | refine blk_drewN ?_ _ | refine blk_drew ?_ | refine blk_alloc ?_ _)); exact BK107.out) hb); have n1_ := Aside0.mk (blk_below (g := gb108) (o := .cells #[.func (.func 46) #[] #[], .func (.func 47) #[] #[]] 68 (0, 0)) (by (with_reducible repeat (first | refine blk_drewN ?_ _ | refine blk_drew ?_ | refine blk_alloc ?_ _)); exact BK108.out) hb); have n2_ := Aside0.mk (below_step (by repeat (first | (with_reducible first | exact HB.out | apply below_alloc | apply pw_below_drewN | apply below_drew1 | refine below_set ?_ GE107.out | refine below_set ?_ GE108.out) | exact HB.out)) hb); have n3_ := Aside0.mk (hbox); have n4_ := Aside0.mk ((by rw [hg]; exact (below_size (by repeat (first | (with_reducible first | exact HB.out | apply below_alloc | apply pw_below_drewN | apply below_drew1 | refine below_set ?_ GE107.out | refine below_set ?_ GE108.out) | exact HB.out))) : w.heap.size ≤ gb109)); have n5_ := Aside0.mk ((by rw [hg]; exact (below_size (by repeat (first | (with_reducible first | exact HB.out | apply below_alloc | apply pw_below_drewN | apply below_drew1 | refine below_set ?_ GE107.out | refine below_set ?_ GE108.out) | exact HB.out))) : w.heap.size ≤ gb109)); have n6_ := Aside0.mk ((by rw [hg]; exact Nat.ne_of_lt (blk_lt (g := gb107) (o := .cells #[.int .i64 a0_0, .int .u64 a0_1] 24 (0, 0)) (by (with_reducible repeat (first | refine blk_drewN ?_ _ | refine blk_drew ?_ | refine blk_alloc ?_ _)); exact BK107.out)) : gb107 ≠ gb109)); have n7_ := Aside0.mk ((by rw [hg]; exact Nat.ne_of_gt (blk_lt (g := gb107) (o := .cells #[.int .i64 a0_0, .int .u64 a0_1] 24 (0, 0)) (by (with_reducible repeat (first | refine blk_drewN ?_ _ | refine blk_drew ?_ | refine blk_alloc ?_ _)); exact BK107.out)) : gb109 ≠ gb107)); have n8_ := Aside0.mk ((by rw [hg]; exact Nat.ne_of_lt (blk_lt (g := gb108) (o := .cells #[.func (.func 46) #[] #[], .func (.func 47) #[] #[]] 68 (0, 0)) (by (with_reducible repeat (first | refine blk_drewN ?_ _ | refine blk_drew ?_ | refine blk_alloc ?_ _)); exact BK108.out)) : gb108 ≠ gb109)); have n9_ := Aside0.mk ((by rw [hg]; exact Nat.ne_of_gt (blk_lt (g := gb108) (o := .cells #[.func (.func 46) #[] #[], .func (.func 47) #[] #[]] 68 (0, 0)) (by (with_reducible repeat (first | refine blk_drewN ?_ _ | refine blk_drew ?_ | refine blk_alloc ?_ _)); exact BK108.out)) : gb109 ≠ gb108)); clear BK107; clear BK108; clear HB; have BK107 := n0_; have BK108 := n1_; have HB := n2_; have BK109 := n3_; have GW109 := n4_; have GE109 := n5_; have NB107_109 := n6_; have NB109_107 := n7_; have NB108_109 := n8_; have NB109_108 := n9_; clear n0_ n1_ n2_ n3_ n4_ n5_ n6_ n7_ n8_ n9_; clear hb hbox hg; have hnb16 := NB109_107.out; have hnc16 := NB107_109.out; have hnb17 := NB109_108.out; have hnc17 := NB108_109.out; have hcz18_0 : w15.cell? ⟨gb109, 0, none⟩ = some (.int .i64 0) := (blk_cell BK109.out 0).trans rfl; have hcz18_1 : w15.cell? ⟨gb109, 1, none⟩ = some (.int .u64 0) := (blk_cell BK109.out 1).trans rfl; have hfz18_0 := blk_frozen BK109.out 0; have hfz18_1 := blk_frozen BK109.out 1; have hcz19_0 : w15.cell? ⟨gb107, 0, none⟩ = some (.int .i64 a0_0) := (blk_cell BK107.out 0).trans rfl; have hcz19_1 : w15.cell? ⟨gb107, 1, none⟩ = some (.int .u64 a0_1) := (blk_cell BK107.out 1).trans rfl; have hfz19_0 := blk_frozen BK107.out 0; have hfz19_1 := blk_frozen BK107.out 1))
          (try simp only [Act.put, List.setIfInBounds_toArray, List.set_cons_zero, List.set_cons_succ])
          go_cut [] (fun wc => ∃ (kq : Nat) (x110000_11 : Int) (x110001_11 : Int), Aside0 (wide_Div.j1 kq a1 a2 (IntKind.u64.wrap (a1)) a0_0 a0_1 x110000_11 x110001_11 = some (r1, r2)) ∧ Aside0 (kq ≤ kj3) ∧ Aside0 (wc.heap[gb107]? = some (.cells #[.int .i64 a0_0, .int .u64 a0_1] 24 (0, 0))) ∧ Aside0 (wc.heap[gb108]? = some (.cells #[.func (.func 46) #[] #[], .func (.func 47) #[] #[]] 68 (0, 0))) ∧ Aside0 (wc.heap[gb109]? = some (.cells #[.int .i64 x110000_11, .int .u64 x110001_11] 24 (0, 0))) ∧ Aside0 (Below w.heap.size w wc))
          case first =>
            have H := HC12.out
            clear HC12
            by_cases c20 : a0_0 < 0
            · rw [if_pos c20] at H
              have c20b0 : decide (a0_0 < 0) = true := decide_eq_true c20
              clear c20
              (first | rw [c20b0] | (simp only [i64_w, i32_w]; rw [c20b0]) | skip)
              replace H := Option.bind_eq_some_iff.mp H
              obtain ⟨⟨t110, t111⟩, A210, H⟩ := H
              replace H : (wide_Div.j1 kj3 a1 a2 (IntKind.u64.wrap (a1)) a0_0 a0_1 t110 t111) = some (r1, r2) := H
              have A21 := Aside0.mk A210
              clear A210
              have H' := Aside0.mk H
              clear H
              have hnb22 := NB107_108.out
              have hnc22 := NB108_107.out
              have hnb23 := NB107_109.out
              have hnc23 := NB109_107.out
              have hcz24_0 : w15.cell? ⟨gb107, 0, none⟩ = some (.int .i64 a0_0) := (blk_cell BK107.out 0).trans rfl
              have hcz24_1 : w15.cell? ⟨gb107, 1, none⟩ = some (.int .u64 a0_1) := (blk_cell BK107.out 1).trans rfl
              have hfz24_0 := blk_frozen BK107.out 0
              have hfz24_1 := blk_frozen BK107.out 1
              go_wp2_with (first | ((with_reducible refine gate_callee (f := 48) rfl ?_); refine goesL_ (some 32) rfl rfl Try.func48 (by kernel_rfl) rfl #[.agg #[.int .i64 a0_0, .int .u64 a0_1]] rfl (by (try simp only [List.map_toArray, List.map_cons, List.map_nil]); first | done | rfl | (simp only [List.length_drop, List.length_take]; rfl)) ?_; (with_reducible refine (wide_turned.calls a0_0 a0_1 t110 t111 _ A21.out).mono ?_); rintro e w25 ⟨rfl, hb⟩; refine ⟨_, rfl, ?_⟩; have n0_ := Aside0.mk (blk_below (g := gb107) (o := .cells #[.int .i64 a0_0, .int .u64 a0_1] 24 (0, 0)) (by (with_reducible repeat (first | refine blk_drewN ?_ _ | refine blk_drew ?_ | refine blk_alloc ?_ _)); refine blk_far ?_ NB107_109.out _; (with_reducible repeat (first | refine blk_drewN ?_ _ | refine blk_drew ?_ | refine blk_alloc ?_ _)); refine blk_far ?_ NB107_109.out _; (with_reducible repeat (first | refine blk_drewN ?_ _ | refine blk_drew ?_ | refine blk_alloc ?_ _)); exact BK107.out) hb); have n1_ := Aside0.mk (blk_below (g := gb108) (o := .cells #[.func (.func 46) #[] #[], .func (.func 47) #[] #[]] 68 (0, 0)) (by (with_reducible repeat (first | refine blk_drewN ?_ _ | refine blk_drew ?_ | refine blk_alloc ?_ _)); refine blk_far ?_ NB108_109.out _; (with_reducible repeat (first | refine blk_drewN ?_ _ | refine blk_drew ?_ | refine blk_alloc ?_ _)); refine blk_far ?_ NB108_109.out _; (with_reducible repeat (first | refine blk_drewN ?_ _ | refine blk_drew ?_ | refine blk_alloc ?_ _)); exact BK108.out) hb); have n2_ := Aside0.mk (blk_below (g := gb109) (o := .cells #[.int .i64 a0_0, .int .u64 a0_1] 24 (0, 0)) (by (with_reducible repeat (first | refine blk_drewN ?_ _ | refine blk_drew ?_ | refine blk_alloc ?_ _)); refine blk_put (cs := #[.int .i64 a0_0, .int .u64 0]) ?_ 1 _ rfl; (with_reducible repeat (first | refine blk_drewN ?_ _ | refine blk_drew ?_ | refine blk_alloc ?_ _)); refine blk_put (cs := #[.int .i64 0, .int .u64 0]) ?_ 0 _ rfl; (with_reducible repeat (first | refine blk_drewN ?_ _ | refine blk_drew ?_ | refine blk_alloc ?_ _)); exact BK109.out) hb); have n3_ := Aside0.mk (below_step (by repeat (first | (with_reducible first | exact HB.out | apply below_alloc | apply pw_below_drewN | apply below_drew1 | refine below_set ?_ GE107.out | refine below_set ?_ GE108.out | refine below_set ?_ GE109.out) | exact HB.out)) hb); clear BK107; clear BK108; clear BK109; clear HB; have BK107 := n0_; have BK108 := n1_; have BK109 := n2_; have HB := n3_; clear n0_ n1_ n2_ n3_; (try clear hb); (try clear hb2); (try clear hk); (try clear hi); have hnb26 := NB109_108.out; have hnc26 := NB108_109.out; have hcz27_0 : w25.cell? ⟨gb109, 0, none⟩ = some (.int .i64 a0_0) := (blk_cell BK109.out 0).trans rfl; have hcz27_1 : w25.cell? ⟨gb109, 1, none⟩ = some (.int .u64 a0_1) := (blk_cell BK109.out 1).trans rfl; have hfz27_0 := blk_frozen BK109.out 0; have hfz27_1 := blk_frozen BK109.out 1))
              go_meet
              case rel => exact ⟨_, (t110), (t111), H', ⟨by have := HJ3.out; first | omega | exact Nat.le_refl _⟩, ⟨by (with_reducible repeat (first | refine blk_drewN ?_ _ | refine blk_drew ?_ | refine blk_alloc ?_ _)); refine blk_far ?_ NB107_109.out _; (with_reducible repeat (first | refine blk_drewN ?_ _ | refine blk_drew ?_ | refine blk_alloc ?_ _)); refine blk_far ?_ NB107_109.out _; (with_reducible repeat (first | refine blk_drewN ?_ _ | refine blk_drew ?_ | refine blk_alloc ?_ _)); exact BK107.out⟩, ⟨by (with_reducible repeat (first | refine blk_drewN ?_ _ | refine blk_drew ?_ | refine blk_alloc ?_ _)); refine blk_far ?_ NB108_109.out _; (with_reducible repeat (first | refine blk_drewN ?_ _ | refine blk_drew ?_ | refine blk_alloc ?_ _)); refine blk_far ?_ NB108_109.out _; (with_reducible repeat (first | refine blk_drewN ?_ _ | refine blk_drew ?_ | refine blk_alloc ?_ _)); exact BK108.out⟩, ⟨by (with_reducible repeat (first | refine blk_drewN ?_ _ | refine blk_drew ?_ | refine blk_alloc ?_ _)); refine blk_put (cs := #[.int .i64 t110, .int .u64 a0_1]) ?_ 1 _ rfl; (with_reducible repeat (first | refine blk_drewN ?_ _ | refine blk_drew ?_ | refine blk_alloc ?_ _)); refine blk_put (cs := #[.int .i64 a0_0, .int .u64 a0_1]) ?_ 0 _ rfl; (with_reducible repeat (first | refine blk_drewN ?_ _ | refine blk_drew ?_ | refine blk_alloc ?_ _)); exact BK109.out⟩, ⟨by repeat (first | (with_reducible first | exact HB.out | apply below_alloc | apply pw_below_drewN | apply below_drew1 | refine below_set ?_ GE107.out | refine below_set ?_ GE108.out | refine below_set ?_ GE109.out) | exact HB.out)⟩⟩
            · rw [if_neg c20] at H
              have c20b0 : decide (a0_0 < 0) = false := decide_eq_false c20
              clear c20
              (first | rw [c20b0] | (simp only [i64_w, i32_w]; rw [c20b0]) | skip)
              have H' := Aside0.mk H
              clear H
              go_wp2
              go_meet
              case rel => exact ⟨_, (a0_0), (a0_1), H', ⟨by have := HJ3.out; first | omega | exact Nat.le_refl _⟩, ⟨by (with_reducible repeat (first | refine blk_drewN ?_ _ | refine blk_drew ?_ | refine blk_alloc ?_ _)); refine blk_far ?_ NB107_109.out _; (with_reducible repeat (first | refine blk_drewN ?_ _ | refine blk_drew ?_ | refine blk_alloc ?_ _)); refine blk_far ?_ NB107_109.out _; (with_reducible repeat (first | refine blk_drewN ?_ _ | refine blk_drew ?_ | refine blk_alloc ?_ _)); exact BK107.out⟩, ⟨by (with_reducible repeat (first | refine blk_drewN ?_ _ | refine blk_drew ?_ | refine blk_alloc ?_ _)); refine blk_far ?_ NB108_109.out _; (with_reducible repeat (first | refine blk_drewN ?_ _ | refine blk_drew ?_ | refine blk_alloc ?_ _)); refine blk_far ?_ NB108_109.out _; (with_reducible repeat (first | refine blk_drewN ?_ _ | refine blk_drew ?_ | refine blk_alloc ?_ _)); exact BK108.out⟩, ⟨by (with_reducible repeat (first | refine blk_drewN ?_ _ | refine blk_drew ?_ | refine blk_alloc ?_ _)); refine blk_put (cs := #[.int .i64 a0_0, .int .u64 0]) ?_ 1 _ rfl; (with_reducible repeat (first | refine blk_drewN ?_ _ | refine blk_drew ?_ | refine blk_alloc ?_ _)); refine blk_put (cs := #[.int .i64 0, .int .u64 0]) ?_ 0 _ rfl; (with_reducible repeat (first | refine blk_drewN ?_ _ | refine blk_drew ?_ | refine blk_alloc ?_ _)); exact BK109.out⟩, ⟨by repeat (first | (with_reducible first | exact HB.out | apply below_alloc | apply pw_below_drewN | apply below_drew1 | refine below_set ?_ GE107.out | refine below_set ?_ GE108.out | refine below_set ?_ GE109.out) | exact HB.out)⟩⟩
          case rest =>
            clear HC12
            try clear c1
            try clear c2
            try clear p2
            try clear c4
            try clear c7
            try clear c9
            try clear c9b0
            try clear c10
            try clear c11
            try clear c11b0
            try clear c11b1
            try clear c13
            try clear c16
            try clear c17
            try clear c20
            try clear c20b0
            try clear c22
            try clear c23
            try clear c26
            try clear hcz14_0
            try clear hcz14_1
            try clear hcz18_0
            try clear hcz18_1
            try clear hcz19_0
            try clear hcz19_1
            try clear hcz24_0
            try clear hcz24_1
            try clear hcz27_0
            try clear hcz27_1
            try clear hcz8_0
            try clear hcz8_1
            try clear hfz14_0
            try clear hfz14_1
            try clear hfz18_0
            try clear hfz18_1
            try clear hfz19_0
            try clear hfz19_1
            try clear hfz24_0
            try clear hfz24_1
            try clear hfz27_0
            try clear hfz27_1
            try clear hfz8_0
            try clear hfz8_1
            try clear p2
            obtain ⟨kq, x110000_11, x110001_11, HA, HJ11, BK107, BK108, BK109, HB⟩ := hcut
            cases kq with
            | zero => exact absurd HA.out (by simp [wide_Div.j1])
            | succ kj11 =>
              have H := HA.out
              clear HA
              simp only [wide_Div.j1] at H
              have HC28 := Aside0.mk H
              clear H
              go_upto_if 34 with (fail)
              go_cut [10] (fun v10 wc => ∃ (kq : Nat) (x10_27 : Int), v10 = .int .u64 x10_27 ∧ Aside0 (wide_Div.j2 kq a1 a2 x10_27 a0_0 a0_1 x110000_11 x110001_11 = some (r1, r2)) ∧ Aside0 (kq ≤ kj11) ∧ Aside0 (wc.heap[gb107]? = some (.cells #[.int .i64 a0_0, .int .u64 a0_1] 24 (0, 0))) ∧ Aside0 (wc.heap[gb108]? = some (.cells #[.func (.func 46) #[] #[], .func (.func 47) #[] #[]] 68 (0, 0))) ∧ Aside0 (wc.heap[gb109]? = some (.cells #[.int .i64 x110000_11, .int .u64 x110001_11] 24 (0, 0))) ∧ Aside0 (Below w.heap.size w wc))
              case first =>
                have H := HC28.out
                clear HC28
                by_cases c29 : a1 < 0
                · rw [if_pos c29] at H
                  have c29b0 : decide (a1 < 0) = true := decide_eq_true c29
                  clear c29
                  (first | rw [c29b0] | (simp only [i64_w, i32_w]; rw [c29b0]) | skip)
                  have H' := Aside0.mk H
                  clear H
                  go_wp2
                  go_meet
                  case rel => exact ⟨_, (IntKind.u64.wrap (-(IntKind.u64.wrap (a1)))), (by first | rfl | (simp; done) | (simp [*]; done)), H', ⟨by have := HJ3.out; have := HJ11.out; first | omega | exact Nat.le_refl _⟩, ⟨by (with_reducible repeat (first | refine blk_drewN ?_ _ | refine blk_drew ?_ | refine blk_alloc ?_ _)); exact BK107.out⟩, ⟨by (with_reducible repeat (first | refine blk_drewN ?_ _ | refine blk_drew ?_ | refine blk_alloc ?_ _)); exact BK108.out⟩, ⟨by (with_reducible repeat (first | refine blk_drewN ?_ _ | refine blk_drew ?_ | refine blk_alloc ?_ _)); exact BK109.out⟩, ⟨by repeat (first | (with_reducible first | exact HB.out | apply below_alloc | apply pw_below_drewN | apply below_drew1 | refine below_set ?_ GE107.out | refine below_set ?_ GE108.out | refine below_set ?_ GE109.out) | exact HB.out)⟩⟩
                · rw [if_neg c29] at H
                  have c29b0 : decide (a1 < 0) = false := decide_eq_false c29
                  clear c29
                  (first | rw [c29b0] | (simp only [i64_w, i32_w]; rw [c29b0]) | skip)
                  have H' := Aside0.mk H
                  clear H
                  go_wp2
                  go_meet
                  case rel => exact ⟨_, ((IntKind.u64.wrap (a1))), (by first | rfl | (simp; done) | (simp [*]; done)), H', ⟨by have := HJ3.out; have := HJ11.out; first | omega | exact Nat.le_refl _⟩, ⟨by (with_reducible repeat (first | refine blk_drewN ?_ _ | refine blk_drew ?_ | refine blk_alloc ?_ _)); exact BK107.out⟩, ⟨by (with_reducible repeat (first | refine blk_drewN ?_ _ | refine blk_drew ?_ | refine blk_alloc ?_ _)); exact BK108.out⟩, ⟨by (with_reducible repeat (first | refine blk_drewN ?_ _ | refine blk_drew ?_ | refine blk_alloc ?_ _)); exact BK109.out⟩, ⟨by repeat (first | (with_reducible first | exact HB.out | apply below_alloc | apply pw_below_drewN | apply below_drew1 | refine below_set ?_ GE107.out | refine below_set ?_ GE108.out | refine below_set ?_ GE109.out) | exact HB.out)⟩⟩
              case rest =>
                clear HC28
                try clear c1
                try clear c2
                try clear p2
                try clear c4
                try clear c7
                try clear c9
                try clear c9b0
                try clear c10
                try clear c11
                try clear c11b0
                try clear c11b1
                try clear c13
                try clear c16
                try clear c17
                try clear c20
                try clear c20b0
                try clear c22
                try clear c23
                try clear c26
                try clear c29
                try clear c29b0
                try clear hcz14_0
                try clear hcz14_1
                try clear hcz18_0
                try clear hcz18_1
                try clear hcz19_0
                try clear hcz19_1
                try clear hcz24_0
                try clear hcz24_1
                try clear hcz27_0
                try clear hcz27_1
                try clear hcz8_0
                try clear hcz8_1
                try clear hfz14_0
                try clear hfz14_1
                try clear hfz18_0
                try clear hfz18_1
                try clear hfz19_0
                try clear hfz19_1
                try clear hfz24_0
                try clear hfz24_1
                try clear hfz27_0
                try clear hfz27_1
                try clear hfz8_0
                try clear hfz8_1
                try clear p2
                obtain ⟨kq, x10_27, rfl, HA, HJ27, BK107, BK108, BK109, HB⟩ := hcut
                cases kq with
                | zero => exact absurd HA.out (by simp [wide_Div.j2])
                | succ kj27 =>
                  have H := HA.out
                  clear HA
                  simp only [wide_Div.j2] at H
                  by_cases c30 : x10_27 = 0
                  · rw [if_pos c30] at H
                    exact absurd H (by simp)
                  · rw [if_neg c30] at H
                    have c30b0 : (x10_27 == 0) = false := beq_eq_false_iff_ne.mpr c30
                    have c30b1 : (x10_27 != 0) = true := bne_iff_ne.mpr c30
                    replace H := Option.bind_eq_some_iff.mp H
                    obtain ⟨⟨t113, t114⟩, A310, H⟩ := H
                    replace H : (if a2 = 0 then ((wide_quotient_floor.f (IntKind.u64.wrap (Int.tdiv (IntKind.u64.wrap (x110000_11)) x10_27)) t113 t114 x10_27 (!((decide (a0_0 < 0)) == (decide (a1 < 0))))).bind fun t115 => (if t115 = true then (if 0 ≤ t113 then (wide_Div.j3 kj27 (IntKind.u64.wrap ((IntKind.u64.wrap (Int.tdiv (IntKind.u64.wrap (x110000_11)) x10_27)) + (Go.Proofs.Ytohbdjfabghagaa.XWalk.c64 t113 1 0))) (Go.Proofs.Ytohbdjfabghagaa.XWalk.s64 t113 1 0) t114 x10_27 (!((decide (a0_0 < 0)) == (decide (a1 < 0))))) else (none)) else (wide_Div.j3 kj27 (IntKind.u64.wrap (Int.tdiv (IntKind.u64.wrap (x110000_11)) x10_27)) t113 t114 x10_27 (!((decide (a0_0 < 0)) == (decide (a1 < 0))))))) else (if a2 = 1 then ((wide_quotient_near.f (IntKind.u64.wrap (Int.tdiv (IntKind.u64.wrap (x110000_11)) x10_27)) t113 t114 x10_27 (!((decide (a0_0 < 0)) == (decide (a1 < 0))))).bind fun t116 => (if t116 = true then (if 0 ≤ t113 then (wide_Div.j5 kj27 (IntKind.u64.wrap ((IntKind.u64.wrap (Int.tdiv (IntKind.u64.wrap (x110000_11)) x10_27)) + (Go.Proofs.Ytohbdjfabghagaa.XWalk.c64 t113 1 0))) (Go.Proofs.Ytohbdjfabghagaa.XWalk.s64 t113 1 0) t114 x10_27 (!((decide (a0_0 < 0)) == (decide (a1 < 0))))) else (none)) else (wide_Div.j5 kj27 (IntKind.u64.wrap (Int.tdiv (IntKind.u64.wrap (x110000_11)) x10_27)) t113 t114 x10_27 (!((decide (a0_0 < 0)) == (decide (a1 < 0))))))) else (none))) = some (r1, r2) := H
                    have A31 := Aside0.mk A310
                    clear A310
                    by_cases c32 : a2 = 0
                    · rw [if_pos c32] at H
                      have c32b0 : (a2 == 0) = true := beq_iff_eq.mpr c32
                      have c32b1 : (a2 != 0) = false := bne_eq_false_iff_eq.mpr c32
                      clear c32
                      replace H := Option.bind_eq_some_iff.mp H
                      obtain ⟨t115, A330, H⟩ := H
                      replace H : (if t115 = true then (if 0 ≤ t113 then (wide_Div.j3 kj27 (IntKind.u64.wrap ((IntKind.u64.wrap (Int.tdiv (IntKind.u64.wrap (x110000_11)) x10_27)) + (Go.Proofs.Ytohbdjfabghagaa.XWalk.c64 t113 1 0))) (Go.Proofs.Ytohbdjfabghagaa.XWalk.s64 t113 1 0) t114 x10_27 (!((decide (a0_0 < 0)) == (decide (a1 < 0))))) else (none)) else (wide_Div.j3 kj27 (IntKind.u64.wrap (Int.tdiv (IntKind.u64.wrap (x110000_11)) x10_27)) t113 t114 x10_27 (!((decide (a0_0 < 0)) == (decide (a1 < 0)))))) = some (r1, r2) := H
                      have A33 := Aside0.mk A330
                      clear A330
                      have HC34 := Aside0.mk H
                      clear H
                      have hnb35 := NB107_108.out
                      have hnc35 := NB108_107.out
                      have hnb36 := NB107_109.out
                      have hnc36 := NB109_107.out
                      have hcz37_0 : wc.cell? ⟨gb107, 0, none⟩ = some (.int .i64 a0_0) := (blk_cell BK107.out 0).trans rfl
                      have hcz37_1 : wc.cell? ⟨gb107, 1, none⟩ = some (.int .u64 a0_1) := (blk_cell BK107.out 1).trans rfl
                      have hfz37_0 := blk_frozen BK107.out 0
                      have hfz37_1 := blk_frozen BK107.out 1
                      try go_wp2_with (first | ((with_reducible refine gate_dst (N := 11) rfl ?_); refine box_event ?hg (N := 11) ?hd (cs := #[.int .u64 0, .int .u64 0, .int .u64 0, .int .u64 0, .bool false]) (t := 67) ?hr ?_; (case hd => rfl); (case hg => rfl); (case hr => first | (go_simp; done) | (go_simp; rfl)); intro gb112 hg w38 hbox hb; have n0_ := Aside0.mk (blk_below (g := gb107) (o := .cells #[.int .i64 a0_0, .int .u64 a0_1] 24 (0, 0)) (by (with_reducible repeat (first | refine blk_drewN ?_ _ | refine blk_drew ?_ | refine blk_alloc ?_ _)); exact BK107.out) hb); have n1_ := Aside0.mk (blk_below (g := gb108) (o := .cells #[.func (.func 46) #[] #[], .func (.func 47) #[] #[]] 68 (0, 0)) (by (with_reducible repeat (first | refine blk_drewN ?_ _ | refine blk_drew ?_ | refine blk_alloc ?_ _)); exact BK108.out) hb); have n2_ := Aside0.mk (blk_below (g := gb109) (o := .cells #[.int .i64 x110000_11, .int .u64 x110001_11] 24 (0, 0)) (by (with_reducible repeat (first | refine blk_drewN ?_ _ | refine blk_drew ?_ | refine blk_alloc ?_ _)); exact BK109.out) hb); have n3_ := Aside0.mk (below_step (by repeat (first | (with_reducible first | exact HB.out | apply below_alloc | apply pw_below_drewN | apply below_drew1 | refine below_set ?_ GE107.out | refine below_set ?_ GE108.out | refine below_set ?_ GE109.out) | exact HB.out)) hb); have n4_ := Aside0.mk (hbox); have n5_ := Aside0.mk ((by rw [hg]; exact (below_size (by repeat (first | (with_reducible first | exact HB.out | apply below_alloc | apply pw_below_drewN | apply below_drew1 | refine below_set ?_ GE107.out | refine below_set ?_ GE108.out | refine below_set ?_ GE109.out) | exact HB.out))) : w.heap.size ≤ gb112)); have n6_ := Aside0.mk ((by rw [hg]; exact (below_size (by repeat (first | (with_reducible first | exact HB.out | apply below_alloc | apply pw_below_drewN | apply below_drew1 | refine below_set ?_ GE107.out | refine below_set ?_ GE108.out | refine below_set ?_ GE109.out) | exact HB.out))) : w.heap.size ≤ gb112)); have n7_ := Aside0.mk ((by rw [hg]; exact Nat.ne_of_lt (blk_lt (g := gb107) (o := .cells #[.int .i64 a0_0, .int .u64 a0_1] 24 (0, 0)) (by (with_reducible repeat (first | refine blk_drewN ?_ _ | refine blk_drew ?_ | refine blk_alloc ?_ _)); exact BK107.out)) : gb107 ≠ gb112)); have n8_ := Aside0.mk ((by rw [hg]; exact Nat.ne_of_gt (blk_lt (g := gb107) (o := .cells #[.int .i64 a0_0, .int .u64 a0_1] 24 (0, 0)) (by (with_reducible repeat (first | refine blk_drewN ?_ _ | refine blk_drew ?_ | refine blk_alloc ?_ _)); exact BK107.out)) : gb112 ≠ gb107)); have n9_ := Aside0.mk ((by rw [hg]; exact Nat.ne_of_lt (blk_lt (g := gb108) (o := .cells #[.func (.func 46) #[] #[], .func (.func 47) #[] #[]] 68 (0, 0)) (by (with_reducible repeat (first | refine blk_drewN ?_ _ | refine blk_drew ?_ | refine blk_alloc ?_ _)); exact BK108.out)) : gb108 ≠ gb112)); have n10_ := Aside0.mk ((by rw [hg]; exact Nat.ne_of_gt (blk_lt (g := gb108) (o := .cells #[.func (.func 46) #[] #[], .func (.func 47) #[] #[]] 68 (0, 0)) (by (with_reducible repeat (first | refine blk_drewN ?_ _ | refine blk_drew ?_ | refine blk_alloc ?_ _)); exact BK108.out)) : gb112 ≠ gb108)); have n11_ := Aside0.mk ((by rw [hg]; exact Nat.ne_of_lt (blk_lt (g := gb109) (o := .cells #[.int .i64 x110000_11, .int .u64 x110001_11] 24 (0, 0)) (by (with_reducible repeat (first | refine blk_drewN ?_ _ | refine blk_drew ?_ | refine blk_alloc ?_ _)); exact BK109.out)) : gb109 ≠ gb112)); have n12_ := Aside0.mk ((by rw [hg]; exact Nat.ne_of_gt (blk_lt (g := gb109) (o := .cells #[.int .i64 x110000_11, .int .u64 x110001_11] 24 (0, 0)) (by (with_reducible repeat (first | refine blk_drewN ?_ _ | refine blk_drew ?_ | refine blk_alloc ?_ _)); exact BK109.out)) : gb112 ≠ gb109)); clear BK107; clear BK108; clear BK109; clear HB; have BK107 := n0_; have BK108 := n1_; have BK109 := n2_; have HB := n3_; have BK112 := n4_; have GW112 := n5_; have GE112 := n6_; have NB107_112 := n7_; have NB112_107 := n8_; have NB108_112 := n9_; have NB112_108 := n10_; have NB109_112 := n11_; have NB112_109 := n12_; clear n0_ n1_ n2_ n3_ n4_ n5_ n6_ n7_ n8_ n9_ n10_ n11_ n12_; clear hb hbox hg; have hnb39 := NB112_107.out; have hnc39 := NB107_112.out; have hnb40 := NB112_108.out; have hnc40 := NB108_112.out; have hnb41 := NB112_109.out; have hnc41 := NB109_112.out; have hcz42_0 : w38.cell? ⟨gb112, 0, none⟩ = some (.int .u64 0) := (blk_cell BK112.out 0).trans rfl; have hcz42_1 : w38.cell? ⟨gb112, 1, none⟩ = some (.int .u64 0) := (blk_cell BK112.out 1).trans rfl; have hcz42_2 : w38.cell? ⟨gb112, 2, none⟩ = some (.int .u64 0) := (blk_cell BK112.out 2).trans rfl; have hcz42_3 : w38.cell? ⟨gb112, 3, none⟩ = some (.int .u64 0) := (blk_cell BK112.out 3).trans rfl; have hcz42_4 : w38.cell? ⟨gb112, 4, none⟩ = some (.bool false) := (blk_cell BK112.out 4).trans rfl; have hfz42_0 := blk_frozen BK112.out 0; have hfz42_1 := blk_frozen BK112.out 1; have hfz42_2 := blk_frozen BK112.out 2; have hfz42_3 := blk_frozen BK112.out 3; have hfz42_4 := blk_frozen BK112.out 4))
                      have n0_ : Aside0 ((((((w38.setCell ⟨gb112, 0, none⟩ (.int .u64 0)).setCell ⟨gb112, 1, none⟩ (.int .u64 0)).setCell ⟨gb112, 2, none⟩ (.int .u64 0)).setCell ⟨gb112, 3, none⟩ (.int .u64 x10_27)).setCell ⟨gb112, 4, none⟩ (.bool (!((decide (a0_0 < 0)) == (decide (a1 < 0)))))).heap[gb107]? = some (.cells #[.int .i64 a0_0, .int .u64 a0_1] 24 (0, 0))) := ⟨by (with_reducible repeat (first | refine blk_drewN ?_ _ | refine blk_drew ?_ | refine blk_alloc ?_ _)); refine blk_far ?_ NB107_112.out _; (with_reducible repeat (first | refine blk_drewN ?_ _ | refine blk_drew ?_ | refine blk_alloc ?_ _)); refine blk_far ?_ NB107_112.out _; (with_reducible repeat (first | refine blk_drewN ?_ _ | refine blk_drew ?_ | refine blk_alloc ?_ _)); refine blk_far ?_ NB107_112.out _; (with_reducible repeat (first | refine blk_drewN ?_ _ | refine blk_drew ?_ | refine blk_alloc ?_ _)); refine blk_far ?_ NB107_112.out _; (with_reducible repeat (first | refine blk_drewN ?_ _ | refine blk_drew ?_ | refine blk_alloc ?_ _)); refine blk_far ?_ NB107_112.out _; (with_reducible repeat (first | refine blk_drewN ?_ _ | refine blk_drew ?_ | refine blk_alloc ?_ _)); exact BK107.out⟩
                      have n1_ : Aside0 ((((((w38.setCell ⟨gb112, 0, none⟩ (.int .u64 0)).setCell ⟨gb112, 1, none⟩ (.int .u64 0)).setCell ⟨gb112, 2, none⟩ (.int .u64 0)).setCell ⟨gb112, 3, none⟩ (.int .u64 x10_27)).setCell ⟨gb112, 4, none⟩ (.bool (!((decide (a0_0 < 0)) == (decide (a1 < 0)))))).heap[gb108]? = some (.cells #[.func (.func 46) #[] #[], .func (.func 47) #[] #[]] 68 (0, 0))) := ⟨by (with_reducible repeat (first | refine blk_drewN ?_ _ | refine blk_drew ?_ | refine blk_alloc ?_ _)); refine blk_far ?_ NB108_112.out _; (with_reducible repeat (first | refine blk_drewN ?_ _ | refine blk_drew ?_ | refine blk_alloc ?_ _)); refine blk_far ?_ NB108_112.out _; (with_reducible repeat (first | refine blk_drewN ?_ _ | refine blk_drew ?_ | refine blk_alloc ?_ _)); refine blk_far ?_ NB108_112.out _; (with_reducible repeat (first | refine blk_drewN ?_ _ | refine blk_drew ?_ | refine blk_alloc ?_ _)); refine blk_far ?_ NB108_112.out _; (with_reducible repeat (first | refine blk_drewN ?_ _ | refine blk_drew ?_ | refine blk_alloc ?_ _)); refine blk_far ?_ NB108_112.out _; (with_reducible repeat (first | refine blk_drewN ?_ _ | refine blk_drew ?_ | refine blk_alloc ?_ _)); exact BK108.out⟩
                      have n2_ : Aside0 ((((((w38.setCell ⟨gb112, 0, none⟩ (.int .u64 0)).setCell ⟨gb112, 1, none⟩ (.int .u64 0)).setCell ⟨gb112, 2, none⟩ (.int .u64 0)).setCell ⟨gb112, 3, none⟩ (.int .u64 x10_27)).setCell ⟨gb112, 4, none⟩ (.bool (!((decide (a0_0 < 0)) == (decide (a1 < 0)))))).heap[gb109]? = some (.cells #[.int .i64 x110000_11, .int .u64 x110001_11] 24 (0, 0))) := ⟨by (with_reducible repeat (first | refine blk_drewN ?_ _ | refine blk_drew ?_ | refine blk_alloc ?_ _)); refine blk_far ?_ NB109_112.out _; (with_reducible repeat (first | refine blk_drewN ?_ _ | refine blk_drew ?_ | refine blk_alloc ?_ _)); refine blk_far ?_ NB109_112.out _; (with_reducible repeat (first | refine blk_drewN ?_ _ | refine blk_drew ?_ | refine blk_alloc ?_ _)); refine blk_far ?_ NB109_112.out _; (with_reducible repeat (first | refine blk_drewN ?_ _ | refine blk_drew ?_ | refine blk_alloc ?_ _)); refine blk_far ?_ NB109_112.out _; (with_reducible repeat (first | refine blk_drewN ?_ _ | refine blk_drew ?_ | refine blk_alloc ?_ _)); refine blk_far ?_ NB109_112.out _; (with_reducible repeat (first | refine blk_drewN ?_ _ | refine blk_drew ?_ | refine blk_alloc ?_ _)); exact BK109.out⟩
                      have n3_ : Aside0 ((((((w38.setCell ⟨gb112, 0, none⟩ (.int .u64 0)).setCell ⟨gb112, 1, none⟩ (.int .u64 0)).setCell ⟨gb112, 2, none⟩ (.int .u64 0)).setCell ⟨gb112, 3, none⟩ (.int .u64 x10_27)).setCell ⟨gb112, 4, none⟩ (.bool (!((decide (a0_0 < 0)) == (decide (a1 < 0)))))).heap[gb112]? = some (.cells #[.int .u64 0, .int .u64 0, .int .u64 0, .int .u64 x10_27, .bool (!((decide (a0_0 < 0)) == (decide (a1 < 0))))] 67 (0, 0))) := ⟨by (with_reducible repeat (first | refine blk_drewN ?_ _ | refine blk_drew ?_ | refine blk_alloc ?_ _)); refine blk_put (cs := #[.int .u64 0, .int .u64 0, .int .u64 0, .int .u64 x10_27, .bool false]) ?_ 4 _ rfl; (with_reducible repeat (first | refine blk_drewN ?_ _ | refine blk_drew ?_ | refine blk_alloc ?_ _)); refine blk_put (cs := #[.int .u64 0, .int .u64 0, .int .u64 0, .int .u64 0, .bool false]) ?_ 3 _ rfl; (with_reducible repeat (first | refine blk_drewN ?_ _ | refine blk_drew ?_ | refine blk_alloc ?_ _)); refine blk_put (cs := #[.int .u64 0, .int .u64 0, .int .u64 0, .int .u64 0, .bool false]) ?_ 2 _ rfl; (with_reducible repeat (first | refine blk_drewN ?_ _ | refine blk_drew ?_ | refine blk_alloc ?_ _)); refine blk_put (cs := #[.int .u64 0, .int .u64 0, .int .u64 0, .int .u64 0, .bool false]) ?_ 1 _ rfl; (with_reducible repeat (first | refine blk_drewN ?_ _ | refine blk_drew ?_ | refine blk_alloc ?_ _)); refine blk_put (cs := #[.int .u64 0, .int .u64 0, .int .u64 0, .int .u64 0, .bool false]) ?_ 0 _ rfl; (with_reducible repeat (first | refine blk_drewN ?_ _ | refine blk_drew ?_ | refine blk_alloc ?_ _)); exact BK112.out⟩
                      have n4_ : Aside0 (Below w.heap.size w (((((w38.setCell ⟨gb112, 0, none⟩ (.int .u64 0)).setCell ⟨gb112, 1, none⟩ (.int .u64 0)).setCell ⟨gb112, 2, none⟩ (.int .u64 0)).setCell ⟨gb112, 3, none⟩ (.int .u64 x10_27)).setCell ⟨gb112, 4, none⟩ (.bool (!((decide (a0_0 < 0)) == (decide (a1 < 0))))))) := ⟨by repeat (first | (with_reducible first | exact HB.out | apply below_alloc | apply pw_below_drewN | apply below_drew1 | refine below_set ?_ GE107.out | refine below_set ?_ GE108.out | refine below_set ?_ GE109.out | refine below_set ?_ GE112.out) | exact HB.out)⟩
                      (try clear BK107)
                      (try clear BK108)
                      (try clear BK109)
                      (try clear BK112)
                      (try clear HB)
                      generalize (((((w38.setCell ⟨gb112, 0, none⟩ (.int .u64 0)).setCell ⟨gb112, 1, none⟩ (.int .u64 0)).setCell ⟨gb112, 2, none⟩ (.int .u64 0)).setCell ⟨gb112, 3, none⟩ (.int .u64 x10_27)).setCell ⟨gb112, 4, none⟩ (.bool (!((decide (a0_0 < 0)) == (decide (a1 < 0)))))) = w43 at n0_ n1_ n2_ n3_ n4_ ⊢
                      have BK107 := n0_
                      have BK108 := n1_
                      have BK109 := n2_
                      have BK112 := n3_
                      have HB := n4_
                      clear n0_ n1_ n2_ n3_ n4_
                      have n0_ := Aside0.mk (blk_drew BK107.out)
                      have n1_ := Aside0.mk (blk_drew BK108.out)
                      have n2_ := Aside0.mk (blk_drew BK109.out)
                      have n3_ := Aside0.mk (blk_drew BK112.out)
                      have n4_ := Aside0.mk (below_drew1 HB.out)
                      clear BK107
                      clear BK108
                      clear BK109
                      clear BK112
                      clear HB
                      have BK107 := n0_
                      have BK108 := n1_
                      have BK109 := n2_
                      have BK112 := n3_
                      have HB := n4_
                      clear n0_ n1_ n2_ n3_ n4_
                      refine start_ (n := 14) (S := fun w' => w'.cell? ⟨gb109, 0, none⟩ = some (.int .i64 x110000_11) ∧ w'.cell? ⟨gb109, 1, none⟩ = some (.int .u64 x110001_11)) (ds := []) #[false, false, false, false, false, false, false, false, false, false, false, false, false, false] (by kernel_rfl) rfl rfl ⟨(blk_cell BK109.out 0).trans rfl, (blk_cell BK109.out 1).trans rfl⟩ (fun hHeld => ?_); refine with_tabW wide_Div.tab12 wide_Div.bits12 (fun HT_ HW_ => ?_)
                      generalize w43.drew = w44 at BK107 BK108 BK109 BK112 HB hHeld ⊢
                      refine pure_ (i := 0) (N := some 45) (v := ?_) (a' := ?_) #[true, false, false, false, false, false, false, false, false, false, false, false, false, false] rfl rfl (any_of HT_.out (by kernel_rfl)) (fun _ _ _ h => h) (Or.inl ⟨by rfl, ?_⟩) ?_ ?_
                      rotate_left
                      · intro w'
                        go_simp
                        with_reducible rfl
                      rotate_left
                      · simp only [Act.put, List.setIfInBounds_toArray, List.set_cons_zero, List.set_cons_succ, i64_w, i32_w]
                        rfl
                      refine pure_ (i := 3) (N := some 48) (v := ?_) (a' := ?_) #[true, false, false, true, false, false, false, false, false, false, false, false, false, false] rfl rfl (any_of HT_.out (by kernel_rfl)) (fun _ _ _ h => h) (Or.inl ⟨by rfl, ?_⟩) ?_ ?_
                      rotate_left
                      · intro w'
                        go_simp
                        with_reducible rfl
                      rotate_left
                      · simp only [Act.put, List.setIfInBounds_toArray, List.set_cons_zero, List.set_cons_succ, i64_w, i32_w]
                        rfl
                      refine pure_ (i := 5) (N := some 50) (v := ?_) (a' := ?_) #[true, false, false, true, false, true, false, false, false, false, false, false, false, false] rfl rfl (any_of HT_.out (by kernel_rfl)) (fun _ _ _ h => h) (Or.inl ⟨by rfl, ?_⟩) ?_ ?_
                      rotate_left
                      · intro w'
                        go_simp
                        with_reducible rfl
                      rotate_left
                      · simp only [Act.put, List.setIfInBounds_toArray, List.set_cons_zero, List.set_cons_succ, i64_w, i32_w]
                        rfl
                      refine pure_ (i := 8) (N := some 53) (v := ?_) (a' := ?_) #[true, false, false, true, false, true, false, false, true, false, false, false, false, false] rfl rfl (any_of HT_.out (by kernel_rfl)) (fun _ _ _ h => h) (Or.inl ⟨by rfl, ?_⟩) ?_ ?_
                      rotate_left
                      · intro w'
                        go_simp
                        with_reducible rfl
                      rotate_left
                      · simp only [Act.put, List.setIfInBounds_toArray, List.set_cons_zero, List.set_cons_succ, i64_w, i32_w]
                        rfl
                      refine take_ (i := 1) (N := some 46) (v := ?_) (a' := ?_) #[true, true, false, true, false, true, false, false, true, false, false, false, false, false] rfl rfl (take_ofW HT_.out HW_.out (by kernel_rfl)) (fun _ _ _ h => h) (Or.inl ⟨by rfl, ?_⟩) hHeld ?_ ?_
                      rotate_left
                      · rintro w' ⟨s0, s1⟩
                        go_simp
                        with_reducible rfl
                      rotate_left
                      · simp only [Act.put, List.setIfInBounds_toArray, List.set_cons_zero, List.set_cons_succ, i64_w, i32_w]
                        rfl
                      refine pure_ (i := 2) (N := some 47) (v := ?_) (a' := ?_) #[true, true, true, true, false, true, false, false, true, false, false, false, false, false] rfl rfl (any_of HT_.out (by kernel_rfl)) (fun _ _ _ h => h) (Or.inl ⟨by rfl, ?_⟩) ?_ ?_
                      rotate_left
                      · intro w'
                        go_simp
                        with_reducible rfl
                      rotate_left
                      · simp only [Act.put, List.setIfInBounds_toArray, List.set_cons_zero, List.set_cons_succ, i64_w, i32_w]
                        rfl
                      refine pure_ (i := 4) (N := some 49) (v := ?_) (a' := ?_) #[true, true, true, true, true, true, false, false, true, false, false, false, false, false] rfl rfl (any_of HT_.out (by kernel_rfl)) (fun _ _ _ h => h) (Or.inl ⟨by rfl, ?_⟩) ?_ ?_
                      rotate_left
                      · intro w'
                        go_simp
                        with_reducible rfl
                      rotate_left
                      · simp only [Act.put, List.setIfInBounds_toArray, List.set_cons_zero, List.set_cons_succ, i64_w, i32_w]
                        rfl
                      refine pure_ (i := 10) (N := some 55) (v := ?_) (a' := ?_) #[true, true, true, true, true, true, false, false, true, false, true, false, false, false] rfl rfl (any_of HT_.out (by kernel_rfl)) (fun _ _ _ h => h) (Or.inl ⟨by rfl, ?_⟩) ?_ ?_
                      rotate_left
                      · intro w'
                        go_simp
                        with_reducible rfl
                      rotate_left
                      · simp only [Act.put, List.setIfInBounds_toArray, List.set_cons_zero, List.set_cons_succ, i64_w, i32_w]
                        rfl
                      refine take_ (i := 6) (N := some 51) (v := ?_) (a' := ?_) #[true, true, true, true, true, true, true, false, true, false, true, false, false, false] rfl rfl (take_ofW HT_.out HW_.out (by kernel_rfl)) (fun _ _ _ h => h) (Or.inl ⟨by rfl, ?_⟩) hHeld ?_ ?_
                      rotate_left
                      · rintro w' ⟨s0, s1⟩
                        go_simp
                        with_reducible rfl
                      rotate_left
                      · simp only [Act.put, List.setIfInBounds_toArray, List.set_cons_zero, List.set_cons_succ, i64_w, i32_w]
                        rfl
                      refine pure_ (i := 7) (N := some 52) (v := ?_) (a' := ?_) #[true, true, true, true, true, true, true, true, true, false, true, false, false, false] rfl rfl (any_of HT_.out (by kernel_rfl)) (fun _ _ _ h => h) (Or.inl ⟨by rfl, ?_⟩) ?_ ?_
                      rotate_left
                      · intro w'
                        go_simp
                        with_reducible rfl
                      rotate_left
                      · simp only [Act.put, List.setIfInBounds_toArray, List.set_cons_zero, List.set_cons_succ, i64_w, i32_w]
                        rfl
                      refine pure_ (i := 9) (N := some 54) (v := ?_) (a' := ?_) #[true, true, true, true, true, true, true, true, true, true, true, false, false, false] rfl rfl (any_of HT_.out (by kernel_rfl)) (fun _ _ _ h => h) (Or.inl ⟨by rfl, ?_⟩) ?_ ?_
                      rotate_left
                      · intro w'
                        go_simp
                        with_reducible rfl
                      rotate_left
                      · simp only [Act.put, List.setIfInBounds_toArray, List.set_cons_zero, List.set_cons_succ, i64_w, i32_w]
                        rfl
                      refine one_ (i := 11) (N := none) #[true, true, true, true, true, true, true, true, true, true, true, true, false, false] rfl rfl (one_of HT_.out (by kernel_rfl)) (by decide) (fun K hK => ?_)
                      have hs45 : w44.cell? ⟨gb112, 0, none⟩ = some (.int .u64 0) := (blk_cell BK112.out 0).trans rfl
                      have hfs45 := blk_frozen BK112.out 0
                      have hns45_0 := NB107_112.out
                      have hns45_1 := NB108_112.out
                      have hns45_2 := NB109_112.out
                      have hms45_0 := NB112_107.out
                      have hms45_1 := NB112_108.out
                      have hms45_2 := NB112_109.out
                      refine skip_ (w1 := ?_) (by rfl) rfl ?_ ?_
                      rotate_left
                      · go_simp
                        rfl
                      refine hK.out _ _ ⟨((cell_far (p := ⟨gb112, _, none⟩) NB109_112.out _).trans (hHeld.1)), ((cell_far (p := ⟨gb112, _, none⟩) NB109_112.out _).trans (hHeld.2))⟩ (fun hHeld => ?_)
                      clear hK K
                      refine pure_ (i := 12) (N := some 56) (v := ?_) (a' := ?_) #[true, true, true, true, true, true, true, true, true, true, true, true, true, false] rfl rfl (any_of HT_.out (by kernel_rfl)) (fun _ _ _ h => h) (Or.inl ⟨by rfl, ?_⟩) ?_ ?_
                      rotate_left
                      · intro w'
                        go_simp
                        with_reducible rfl
                      rotate_left
                      · simp only [Act.put, List.setIfInBounds_toArray, List.set_cons_zero, List.set_cons_succ, i64_w, i32_w]
                        rfl
                      refine one_ (i := 13) (N := none) #[true, true, true, true, true, true, true, true, true, true, true, true, true, true] rfl rfl (one_of HT_.out (by kernel_rfl)) (by decide) (fun K hK => ?_)
                      have hs46 : w44.cell? ⟨gb112, 2, none⟩ = some (.int .u64 0) := (blk_cell BK112.out 2).trans rfl
                      have hfs46 := blk_frozen BK112.out 2
                      have hns46_0 := NB107_112.out
                      have hns46_1 := NB108_112.out
                      have hns46_2 := NB109_112.out
                      have hms46_0 := NB112_107.out
                      have hms46_1 := NB112_108.out
                      have hms46_2 := NB112_109.out
                      refine skip_ (w1 := ?_) (by rfl) rfl ?_ ?_
                      rotate_left
                      · go_simp
                        rfl
                      refine hK.out _ _ ⟨((cell_far (p := ⟨gb112, _, none⟩) NB109_112.out _).trans (hHeld.1)), ((cell_far (p := ⟨gb112, _, none⟩) NB109_112.out _).trans (hHeld.2))⟩ (fun hHeld => ?_)
                      clear hK K
                      refine done_ (done_of HT_.out (by kernel_rfl)) ?_
                      have n0_ : Aside0 (((w44.setCell ⟨gb112, 0, none⟩ (.int .u64 (IntKind.u64.wrap (Int.tdiv (IntKind.u64.wrap (x110000_11)) x10_27)))).setCell ⟨gb112, 2, none⟩ (.int .u64 (Int.tmod (IntKind.u64.wrap (x110000_11)) x10_27))).heap[gb107]? = some (.cells #[.int .i64 a0_0, .int .u64 a0_1] 24 (0, 0))) := ⟨by (with_reducible repeat (first | refine blk_drewN ?_ _ | refine blk_drew ?_ | refine blk_alloc ?_ _)); refine blk_far ?_ NB107_112.out _; (with_reducible repeat (first | refine blk_drewN ?_ _ | refine blk_drew ?_ | refine blk_alloc ?_ _)); refine blk_far ?_ NB107_112.out _; (with_reducible repeat (first | refine blk_drewN ?_ _ | refine blk_drew ?_ | refine blk_alloc ?_ _)); exact BK107.out⟩
                      have n1_ : Aside0 (((w44.setCell ⟨gb112, 0, none⟩ (.int .u64 (IntKind.u64.wrap (Int.tdiv (IntKind.u64.wrap (x110000_11)) x10_27)))).setCell ⟨gb112, 2, none⟩ (.int .u64 (Int.tmod (IntKind.u64.wrap (x110000_11)) x10_27))).heap[gb108]? = some (.cells #[.func (.func 46) #[] #[], .func (.func 47) #[] #[]] 68 (0, 0))) := ⟨by (with_reducible repeat (first | refine blk_drewN ?_ _ | refine blk_drew ?_ | refine blk_alloc ?_ _)); refine blk_far ?_ NB108_112.out _; (with_reducible repeat (first | refine blk_drewN ?_ _ | refine blk_drew ?_ | refine blk_alloc ?_ _)); refine blk_far ?_ NB108_112.out _; (with_reducible repeat (first | refine blk_drewN ?_ _ | refine blk_drew ?_ | refine blk_alloc ?_ _)); exact BK108.out⟩
                      have n2_ : Aside0 (((w44.setCell ⟨gb112, 0, none⟩ (.int .u64 (IntKind.u64.wrap (Int.tdiv (IntKind.u64.wrap (x110000_11)) x10_27)))).setCell ⟨gb112, 2, none⟩ (.int .u64 (Int.tmod (IntKind.u64.wrap (x110000_11)) x10_27))).heap[gb109]? = some (.cells #[.int .i64 x110000_11, .int .u64 x110001_11] 24 (0, 0))) := ⟨by (with_reducible repeat (first | refine blk_drewN ?_ _ | refine blk_drew ?_ | refine blk_alloc ?_ _)); refine blk_far ?_ NB109_112.out _; (with_reducible repeat (first | refine blk_drewN ?_ _ | refine blk_drew ?_ | refine blk_alloc ?_ _)); refine blk_far ?_ NB109_112.out _; (with_reducible repeat (first | refine blk_drewN ?_ _ | refine blk_drew ?_ | refine blk_alloc ?_ _)); exact BK109.out⟩
                      have n3_ : Aside0 (((w44.setCell ⟨gb112, 0, none⟩ (.int .u64 (IntKind.u64.wrap (Int.tdiv (IntKind.u64.wrap (x110000_11)) x10_27)))).setCell ⟨gb112, 2, none⟩ (.int .u64 (Int.tmod (IntKind.u64.wrap (x110000_11)) x10_27))).heap[gb112]? = some (.cells #[.int .u64 (IntKind.u64.wrap (Int.tdiv (IntKind.u64.wrap (x110000_11)) x10_27)), .int .u64 0, .int .u64 (Int.tmod (IntKind.u64.wrap (x110000_11)) x10_27), .int .u64 x10_27, .bool (!((decide (a0_0 < 0)) == (decide (a1 < 0))))] 67 (0, 0))) := ⟨by (with_reducible repeat (first | refine blk_drewN ?_ _ | refine blk_drew ?_ | refine blk_alloc ?_ _)); refine blk_put (cs := #[.int .u64 (IntKind.u64.wrap (Int.tdiv (IntKind.u64.wrap (x110000_11)) x10_27)), .int .u64 0, .int .u64 0, .int .u64 x10_27, .bool (!((decide (a0_0 < 0)) == (decide (a1 < 0))))]) ?_ 2 _ rfl; (with_reducible repeat (first | refine blk_drewN ?_ _ | refine blk_drew ?_ | refine blk_alloc ?_ _)); refine blk_put (cs := #[.int .u64 0, .int .u64 0, .int .u64 0, .int .u64 x10_27, .bool (!((decide (a0_0 < 0)) == (decide (a1 < 0))))]) ?_ 0 _ rfl; (with_reducible repeat (first | refine blk_drewN ?_ _ | refine blk_drew ?_ | refine blk_alloc ?_ _)); exact BK112.out⟩
                      have n4_ : Aside0 (Below w.heap.size w ((w44.setCell ⟨gb112, 0, none⟩ (.int .u64 (IntKind.u64.wrap (Int.tdiv (IntKind.u64.wrap (x110000_11)) x10_27)))).setCell ⟨gb112, 2, none⟩ (.int .u64 (Int.tmod (IntKind.u64.wrap (x110000_11)) x10_27)))) := ⟨by repeat (first | (with_reducible first | exact HB.out | apply below_alloc | apply pw_below_drewN | apply below_drew1 | refine below_set ?_ GE107.out | refine below_set ?_ GE108.out | refine below_set ?_ GE109.out | refine below_set ?_ GE112.out) | exact HB.out)⟩
                      (try clear BK107)
                      (try clear BK108)
                      (try clear BK109)
                      (try clear BK112)
                      (try clear HB)
                      generalize ((w44.setCell ⟨gb112, 0, none⟩ (.int .u64 (IntKind.u64.wrap (Int.tdiv (IntKind.u64.wrap (x110000_11)) x10_27)))).setCell ⟨gb112, 2, none⟩ (.int .u64 (Int.tmod (IntKind.u64.wrap (x110000_11)) x10_27))) = w47 at n0_ n1_ n2_ n3_ n4_ ⊢
                      have BK107 := n0_
                      have BK108 := n1_
                      have BK109 := n2_
                      have BK112 := n3_
                      have HB := n4_
                      clear n0_ n1_ n2_ n3_ n4_
                      have hcz48_0 : w47.cell? ⟨gb112, 0, none⟩ = some (.int .u64 (IntKind.u64.wrap (Int.tdiv (IntKind.u64.wrap (x110000_11)) x10_27))) := (blk_cell BK112.out 0).trans rfl
                      have hcz48_1 : w47.cell? ⟨gb112, 1, none⟩ = some (.int .u64 0) := (blk_cell BK112.out 1).trans rfl
                      have hcz48_2 : w47.cell? ⟨gb112, 2, none⟩ = some (.int .u64 (Int.tmod (IntKind.u64.wrap (x110000_11)) x10_27)) := (blk_cell BK112.out 2).trans rfl
                      have hcz48_3 : w47.cell? ⟨gb112, 3, none⟩ = some (.int .u64 x10_27) := (blk_cell BK112.out 3).trans rfl
                      have hcz48_4 : w47.cell? ⟨gb112, 4, none⟩ = some (.bool (!((decide (a0_0 < 0)) == (decide (a1 < 0))))) := (blk_cell BK112.out 4).trans rfl
                      have hfz48_0 := blk_frozen BK112.out 0
                      have hfz48_1 := blk_frozen BK112.out 1
                      have hfz48_2 := blk_frozen BK112.out 2
                      have hfz48_3 := blk_frozen BK112.out 3
                      have hfz48_4 := blk_frozen BK112.out 4
                      have hnb49 := NB109_108.out
                      have hnc49 := NB108_109.out
                      have hcz50_0 : w47.cell? ⟨gb109, 0, none⟩ = some (.int .i64 x110000_11) := (blk_cell BK109.out 0).trans rfl
                      have hcz50_1 : w47.cell? ⟨gb109, 1, none⟩ = some (.int .u64 x110001_11) := (blk_cell BK109.out 1).trans rfl
                      have hfz50_0 := blk_frozen BK109.out 0
                      have hfz50_1 := blk_frozen BK109.out 1
                      try go_wp2_with (first | ((with_reducible refine gate_callee (f := 49) rfl ?_); refine goesL_ (some 63) rfl rfl Try.func49 (by kernel_rfl) rfl #[.int .u64 (Int.tmod (IntKind.u64.wrap (x110000_11)) x10_27), .int .u64 x110001_11, .int .u64 x10_27] rfl (by (try simp only [List.map_toArray, List.map_cons, List.map_nil]); first | done | rfl | (simp only [List.length_drop, List.length_take]; rfl)) ?_; (with_reducible refine (math_bits_Div64.calls kj27 (Int.tmod (IntKind.u64.wrap (x110000_11)) x10_27) x110001_11 x10_27 t113 t114 _ A31.out).mono ?_); rintro e w' ⟨rfl, ⟨nd, rfl⟩⟩; refine ⟨_, rfl, ?_⟩; (try (rw [drewN_self w47]; generalize hq_ : World.drewN w47 _ = w47; have n0_ : Aside0 (w47.heap[gb107]? = some (.cells #[.int .i64 a0_0, .int .u64 a0_1] 24 (0, 0))) := ⟨by rw [← hq_]; exact (by (with_reducible repeat (first | refine blk_drewN ?_ _ | refine blk_drew ?_ | refine blk_alloc ?_ _)); exact BK107.out)⟩; have n1_ : Aside0 (w47.heap[gb108]? = some (.cells #[.func (.func 46) #[] #[], .func (.func 47) #[] #[]] 68 (0, 0))) := ⟨by rw [← hq_]; exact (by (with_reducible repeat (first | refine blk_drewN ?_ _ | refine blk_drew ?_ | refine blk_alloc ?_ _)); exact BK108.out)⟩; have n2_ : Aside0 (w47.heap[gb109]? = some (.cells #[.int .i64 x110000_11, .int .u64 x110001_11] 24 (0, 0))) := ⟨by rw [← hq_]; exact (by (with_reducible repeat (first | refine blk_drewN ?_ _ | refine blk_drew ?_ | refine blk_alloc ?_ _)); exact BK109.out)⟩; have n3_ : Aside0 (w47.heap[gb112]? = some (.cells #[.int .u64 (IntKind.u64.wrap (Int.tdiv (IntKind.u64.wrap (x110000_11)) x10_27)), .int .u64 0, .int .u64 (Int.tmod (IntKind.u64.wrap (x110000_11)) x10_27), .int .u64 x10_27, .bool (!((decide (a0_0 < 0)) == (decide (a1 < 0))))] 67 (0, 0))) := ⟨by rw [← hq_]; exact (by (with_reducible repeat (first | refine blk_drewN ?_ _ | refine blk_drew ?_ | refine blk_alloc ?_ _)); exact BK112.out)⟩; have n4_ : Aside0 (Below w.heap.size w w47) := ⟨by rw [← hq_]; exact (by repeat (first | (with_reducible first | exact HB.out | apply below_alloc | apply pw_below_drewN | apply below_drew1 | refine below_set ?_ GE107.out | refine below_set ?_ GE108.out | refine below_set ?_ GE109.out | refine below_set ?_ GE112.out) | exact HB.out))⟩; clear BK107 BK108 BK109 BK112 HB hq_; have BK107 := n0_; have BK108 := n1_; have BK109 := n2_; have BK112 := n3_; have HB := n4_; clear n0_ n1_ n2_ n3_ n4_)); (try (have hcz51_0 : w47.cell? ⟨gb107, 0, none⟩ = some (.int .i64 a0_0) := (blk_cell BK107.out 0).trans rfl; have hfz51_0 := blk_frozen BK107.out 0; have hcz51_1 : w47.cell? ⟨gb107, 1, none⟩ = some (.int .u64 a0_1) := (blk_cell BK107.out 1).trans rfl; have hfz51_1 := blk_frozen BK107.out 1; have hcz52_0 : w47.cell? ⟨gb108, 0, none⟩ = some (.func (.func 46) #[] #[]) := (blk_cell BK108.out 0).trans rfl; have hfz52_0 := blk_frozen BK108.out 0; have hcz52_1 : w47.cell? ⟨gb108, 1, none⟩ = some (.func (.func 47) #[] #[]) := (blk_cell BK108.out 1).trans rfl; have hfz52_1 := blk_frozen BK108.out 1; have hcz53_0 : w47.cell? ⟨gb109, 0, none⟩ = some (.int .i64 x110000_11) := (blk_cell BK109.out 0).trans rfl; have hfz53_0 := blk_frozen BK109.out 0; have hcz53_1 : w47.cell? ⟨gb109, 1, none⟩ = some (.int .u64 x110001_11) := (blk_cell BK109.out 1).trans rfl; have hfz53_1 := blk_frozen BK109.out 1; have hcz54_0 : w47.cell? ⟨gb112, 0, none⟩ = some (.int .u64 (IntKind.u64.wrap (Int.tdiv (IntKind.u64.wrap (x110000_11)) x10_27))) := (blk_cell BK112.out 0).trans rfl; have hfz54_0 := blk_frozen BK112.out 0; have hcz54_1 : w47.cell? ⟨gb112, 1, none⟩ = some (.int .u64 0) := (blk_cell BK112.out 1).trans rfl; have hfz54_1 := blk_frozen BK112.out 1; have hcz54_2 : w47.cell? ⟨gb112, 2, none⟩ = some (.int .u64 (Int.tmod (IntKind.u64.wrap (x110000_11)) x10_27)) := (blk_cell BK112.out 2).trans rfl; have hfz54_2 := blk_frozen BK112.out 2; have hcz54_3 : w47.cell? ⟨gb112, 3, none⟩ = some (.int .u64 x10_27) := (blk_cell BK112.out 3).trans rfl; have hfz54_3 := blk_frozen BK112.out 3; have hcz54_4 : w47.cell? ⟨gb112, 4, none⟩ = some (.bool (!((decide (a0_0 < 0)) == (decide (a1 < 0))))) := (blk_cell BK112.out 4).trans rfl; have hfz54_4 := blk_frozen BK112.out 4))))
                      have n0_ : Aside0 (((w47.setCell ⟨gb112, 1, none⟩ (.int .u64 t113)).setCell ⟨gb112, 2, none⟩ (.int .u64 t114)).heap[gb107]? = some (.cells #[.int .i64 a0_0, .int .u64 a0_1] 24 (0, 0))) := ⟨by (with_reducible repeat (first | refine blk_drewN ?_ _ | refine blk_drew ?_ | refine blk_alloc ?_ _)); refine blk_far ?_ NB107_112.out _; (with_reducible repeat (first | refine blk_drewN ?_ _ | refine blk_drew ?_ | refine blk_alloc ?_ _)); refine blk_far ?_ NB107_112.out _; (with_reducible repeat (first | refine blk_drewN ?_ _ | refine blk_drew ?_ | refine blk_alloc ?_ _)); exact BK107.out⟩
                      have n1_ : Aside0 (((w47.setCell ⟨gb112, 1, none⟩ (.int .u64 t113)).setCell ⟨gb112, 2, none⟩ (.int .u64 t114)).heap[gb108]? = some (.cells #[.func (.func 46) #[] #[], .func (.func 47) #[] #[]] 68 (0, 0))) := ⟨by (with_reducible repeat (first | refine blk_drewN ?_ _ | refine blk_drew ?_ | refine blk_alloc ?_ _)); refine blk_far ?_ NB108_112.out _; (with_reducible repeat (first | refine blk_drewN ?_ _ | refine blk_drew ?_ | refine blk_alloc ?_ _)); refine blk_far ?_ NB108_112.out _; (with_reducible repeat (first | refine blk_drewN ?_ _ | refine blk_drew ?_ | refine blk_alloc ?_ _)); exact BK108.out⟩
                      have n2_ : Aside0 (((w47.setCell ⟨gb112, 1, none⟩ (.int .u64 t113)).setCell ⟨gb112, 2, none⟩ (.int .u64 t114)).heap[gb109]? = some (.cells #[.int .i64 x110000_11, .int .u64 x110001_11] 24 (0, 0))) := ⟨by (with_reducible repeat (first | refine blk_drewN ?_ _ | refine blk_drew ?_ | refine blk_alloc ?_ _)); refine blk_far ?_ NB109_112.out _; (with_reducible repeat (first | refine blk_drewN ?_ _ | refine blk_drew ?_ | refine blk_alloc ?_ _)); refine blk_far ?_ NB109_112.out _; (with_reducible repeat (first | refine blk_drewN ?_ _ | refine blk_drew ?_ | refine blk_alloc ?_ _)); exact BK109.out⟩
                      have n3_ : Aside0 (((w47.setCell ⟨gb112, 1, none⟩ (.int .u64 t113)).setCell ⟨gb112, 2, none⟩ (.int .u64 t114)).heap[gb112]? = some (.cells #[.int .u64 (IntKind.u64.wrap (Int.tdiv (IntKind.u64.wrap (x110000_11)) x10_27)), .int .u64 t113, .int .u64 t114, .int .u64 x10_27, .bool (!((decide (a0_0 < 0)) == (decide (a1 < 0))))] 67 (0, 0))) := ⟨by (with_reducible repeat (first | refine blk_drewN ?_ _ | refine blk_drew ?_ | refine blk_alloc ?_ _)); refine blk_put (cs := #[.int .u64 (IntKind.u64.wrap (Int.tdiv (IntKind.u64.wrap (x110000_11)) x10_27)), .int .u64 t113, .int .u64 (Int.tmod (IntKind.u64.wrap (x110000_11)) x10_27), .int .u64 x10_27, .bool (!((decide (a0_0 < 0)) == (decide (a1 < 0))))]) ?_ 2 _ rfl; (with_reducible repeat (first | refine blk_drewN ?_ _ | refine blk_drew ?_ | refine blk_alloc ?_ _)); refine blk_put (cs := #[.int .u64 (IntKind.u64.wrap (Int.tdiv (IntKind.u64.wrap (x110000_11)) x10_27)), .int .u64 0, .int .u64 (Int.tmod (IntKind.u64.wrap (x110000_11)) x10_27), .int .u64 x10_27, .bool (!((decide (a0_0 < 0)) == (decide (a1 < 0))))]) ?_ 1 _ rfl; (with_reducible repeat (first | refine blk_drewN ?_ _ | refine blk_drew ?_ | refine blk_alloc ?_ _)); exact BK112.out⟩
                      have n4_ : Aside0 (Below w.heap.size w ((w47.setCell ⟨gb112, 1, none⟩ (.int .u64 t113)).setCell ⟨gb112, 2, none⟩ (.int .u64 t114))) := ⟨by repeat (first | (with_reducible first | exact HB.out | apply below_alloc | apply pw_below_drewN | apply below_drew1 | refine below_set ?_ GE107.out | refine below_set ?_ GE108.out | refine below_set ?_ GE109.out | refine below_set ?_ GE112.out) | exact HB.out)⟩
                      (try clear BK107)
                      (try clear BK108)
                      (try clear BK109)
                      (try clear BK112)
                      (try clear HB)
                      generalize ((w47.setCell ⟨gb112, 1, none⟩ (.int .u64 t113)).setCell ⟨gb112, 2, none⟩ (.int .u64 t114)) = w55 at n0_ n1_ n2_ n3_ n4_ ⊢
                      have BK107 := n0_
                      have BK108 := n1_
                      have BK109 := n2_
                      have BK112 := n3_
                      have HB := n4_
                      clear n0_ n1_ n2_ n3_ n4_
                      have n0_ := Aside0.mk (blk_drew BK107.out)
                      have n1_ := Aside0.mk (blk_drew BK108.out)
                      have n2_ := Aside0.mk (blk_drew BK109.out)
                      have n3_ := Aside0.mk (blk_drew BK112.out)
                      have n4_ := Aside0.mk (below_drew1 HB.out)
                      clear BK107
                      clear BK108
                      clear BK109
                      clear BK112
                      clear HB
                      have BK107 := n0_
                      have BK108 := n1_
                      have BK109 := n2_
                      have BK112 := n3_
                      have HB := n4_
                      clear n0_ n1_ n2_ n3_ n4_
                      have hx57 : ∀ W, (Instr.indexAt 68 (.pointer (some ⟨gb108, 0, none⟩)) (.int .i64 a2)).run Try.prog W = .ok (.pointer (some ⟨gb108, 0, none⟩)) W := fun W => by rw [show a2 = 0 from beq_iff_eq.mp (by first | (with_reducible assumption) | assumption)]; first | kernel_rfl | rfl
                      refine start_ (n := 5) (S := fun w' => w'.cell? ⟨gb108, 0, none⟩ = some (.func (.func 46) #[] #[]) ∧ w'.cell? ⟨gb108, 1, none⟩ = some (.func (.func 47) #[] #[]) ∧ w'.cell? ⟨gb112, 0, none⟩ = some (.int .u64 (IntKind.u64.wrap (Int.tdiv (IntKind.u64.wrap (x110000_11)) x10_27))) ∧ w'.cell? ⟨gb112, 1, none⟩ = some (.int .u64 t113) ∧ w'.cell? ⟨gb112, 2, none⟩ = some (.int .u64 t114) ∧ w'.cell? ⟨gb112, 3, none⟩ = some (.int .u64 x10_27) ∧ w'.cell? ⟨gb112, 4, none⟩ = some (.bool (!((decide (a0_0 < 0)) == (decide (a1 < 0)))))) (ds := []) #[false, false, false, false, false] (by kernel_rfl) rfl rfl ⟨(blk_cell BK108.out 0).trans rfl, (blk_cell BK108.out 1).trans rfl, (blk_cell BK112.out 0).trans rfl, (blk_cell BK112.out 1).trans rfl, (blk_cell BK112.out 2).trans rfl, (blk_cell BK112.out 3).trans rfl, (blk_cell BK112.out 4).trans rfl⟩ (fun hHeld => ?_)
                      generalize w55.drew = w56 at BK107 BK108 BK109 BK112 HB hHeld ⊢
                      refine pure_ (i := 0) (N := some 68) (v := ?_) (a' := ?_) #[true, false, false, false, false] rfl rfl (by kernel_rfl) (fun _ _ _ h => h) (Or.inl ⟨by rfl, ?_⟩) ?_ ?_
                      rotate_left
                      · intro w'
                        go_simp
                        with_reducible rfl
                      rotate_left
                      · simp only [Act.put, List.setIfInBounds_toArray, List.set_cons_zero, List.set_cons_succ, i64_w, i32_w]
                        rfl
                      refine pure_ (i := 1) (N := some 69) (v := ?_) (a' := ?_) #[true, true, false, false, false] rfl rfl (by kernel_rfl) (fun _ _ _ h => h) (Or.inl ⟨by rfl, ?_⟩) ?_ ?_
                      rotate_left
                      · intro w'
                        go_simp
                        with_reducible rfl
                      rotate_left
                      · simp only [Act.put, List.setIfInBounds_toArray, List.set_cons_zero, List.set_cons_succ, i64_w, i32_w]
                        rfl
                      refine take_ (i := 2) (N := some 70) (v := ?_) (a' := ?_) #[true, true, true, false, false] rfl rfl (by kernel_rfl) (fun _ _ _ h => h) (Or.inl ⟨by rfl, ?_⟩) hHeld ?_ ?_
                      rotate_left
                      · rintro w' ⟨s0, s1, s2, s3, s4, s5, s6⟩
                        go_simp
                        with_reducible rfl
                      rotate_left
                      · simp only [Act.put, List.setIfInBounds_toArray, List.set_cons_zero, List.set_cons_succ, i64_w, i32_w]
                        rfl
                      refine take_ (i := 3) (N := some 71) (v := ?_) (a' := ?_) #[true, true, true, true, false] rfl rfl (by kernel_rfl) (fun _ _ _ h => h) (Or.inl ⟨by rfl, ?_⟩) hHeld ?_ ?_
                      rotate_left
                      · rintro w' ⟨s0, s1, s2, s3, s4, s5, s6⟩
                        go_simp
                        with_reducible rfl
                      rotate_left
                      · simp only [Act.put, List.setIfInBounds_toArray, List.set_cons_zero, List.set_cons_succ, i64_w, i32_w]
                        rfl
                      refine one_ (i := 4) (N := some 72) #[true, true, true, true, true] rfl rfl (by kernel_rfl) (by decide) (fun K hK => ?_)
                      refine Go.Proofs.Ytohbdjfabghagaa.XWalk.goesV_ Try.func46 (by kernel_rfl) rfl #[.agg #[.int .u64 (IntKind.u64.wrap (Int.tdiv (IntKind.u64.wrap (x110000_11)) x10_27)), .int .u64 t113, .int .u64 t114, .int .u64 x10_27, .bool (!((decide (a0_0 < 0)) == (decide (a1 < 0))))]] (by rfl) rfl rfl rfl (by (try simp only [List.map_toArray, List.map_cons, List.map_nil]); first | done | rfl | (simp only [List.length_drop, List.length_take]; rfl)) ?_
                      with_reducible refine (wide_quotient_floor.calls (IntKind.u64.wrap (Int.tdiv (IntKind.u64.wrap (x110000_11)) x10_27)) t113 t114 x10_27 (!((decide (a0_0 < 0)) == (decide (a1 < 0)))) t115 _ A33.out).mono ?_
                      rintro e w58 ⟨rfl, hb⟩
                      refine ⟨_, rfl, ?_⟩
                      have n0_ := Aside0.mk (blk_below (g := gb107) (o := .cells #[.int .i64 a0_0, .int .u64 a0_1] 24 (0, 0)) (by (with_reducible repeat (first | refine blk_drewN ?_ _ | refine blk_drew ?_ | refine blk_alloc ?_ _)); exact BK107.out) hb)
                      have n1_ := Aside0.mk (blk_below (g := gb108) (o := .cells #[.func (.func 46) #[] #[], .func (.func 47) #[] #[]] 68 (0, 0)) (by (with_reducible repeat (first | refine blk_drewN ?_ _ | refine blk_drew ?_ | refine blk_alloc ?_ _)); exact BK108.out) hb)
                      have n2_ := Aside0.mk (blk_below (g := gb109) (o := .cells #[.int .i64 x110000_11, .int .u64 x110001_11] 24 (0, 0)) (by (with_reducible repeat (first | refine blk_drewN ?_ _ | refine blk_drew ?_ | refine blk_alloc ?_ _)); exact BK109.out) hb)
                      have n3_ := Aside0.mk (blk_below (g := gb112) (o := .cells #[.int .u64 (IntKind.u64.wrap (Int.tdiv (IntKind.u64.wrap (x110000_11)) x10_27)), .int .u64 t113, .int .u64 t114, .int .u64 x10_27, .bool (!((decide (a0_0 < 0)) == (decide (a1 < 0))))] 67 (0, 0)) (by (with_reducible repeat (first | refine blk_drewN ?_ _ | refine blk_drew ?_ | refine blk_alloc ?_ _)); exact BK112.out) hb)
                      have n4_ := Aside0.mk (below_step (by repeat (first | (with_reducible first | exact HB.out | apply below_alloc | apply pw_below_drewN | apply below_drew1 | refine below_set ?_ GE107.out | refine below_set ?_ GE108.out | refine below_set ?_ GE109.out | refine below_set ?_ GE112.out) | exact HB.out)) hb)
                      clear BK107
                      clear BK108
                      clear BK109
                      clear BK112
                      clear HB
                      have BK107 := n0_
                      have BK108 := n1_
                      have BK109 := n2_
                      have BK112 := n3_
                      have HB := n4_
                      clear n0_ n1_ n2_ n3_ n4_
                      (try clear hb)
                      (try clear hb2)
                      (try clear hk)
                      (try clear hi)
                      refine hK.out _ _ ⟨(blk_cell BK108.out 0).trans rfl, (blk_cell BK108.out 1).trans rfl, (blk_cell BK112.out 0).trans rfl, (blk_cell BK112.out 1).trans rfl, (blk_cell BK112.out 2).trans rfl, (blk_cell BK112.out 3).trans rfl, (blk_cell BK112.out 4).trans rfl⟩ (fun hHeld => ?_)
                      clear hK K
                      refine norm_ (a' := ?_) ?_ ?_
                      rotate_left
                      · show Act.put _ (some 72) _ = _
                        simp only [Act.put, List.setIfInBounds_toArray, List.set_cons_zero, List.set_cons_succ, i64_w, i32_w]
                        rfl
                      refine done_ (by kernel_rfl) ?_
                      go_upto_if 72 with (fail)
                      go_cut [] (fun wc => ∃ (kq : Nat) (x113000_33 : Int) (x113001_33 : Int), Aside0 (wide_Div.j3 kq x113000_33 x113001_33 t114 x10_27 (!((decide (a0_0 < 0)) == (decide (a1 < 0)))) = some (r1, r2)) ∧ Aside0 (kq ≤ kj27) ∧ Aside0 (wc.heap[gb107]? = some (.cells #[.int .i64 a0_0, .int .u64 a0_1] 24 (0, 0))) ∧ Aside0 (wc.heap[gb108]? = some (.cells #[.func (.func 46) #[] #[], .func (.func 47) #[] #[]] 68 (0, 0))) ∧ Aside0 (wc.heap[gb109]? = some (.cells #[.int .i64 x110000_11, .int .u64 x110001_11] 24 (0, 0))) ∧ Aside0 (wc.heap[gb112]? = some (.cells #[.int .u64 x113000_33, .int .u64 x113001_33, .int .u64 t114, .int .u64 x10_27, .bool (!((decide (a0_0 < 0)) == (decide (a1 < 0))))] 67 (0, 0))) ∧ Aside0 (Below w.heap.size w wc))
                      case first =>
                        have H := HC34.out
                        clear HC34
                        by_cases c59 : t115 = true
                        · subst c59
                          have H1 : (if 0 ≤ t113 then (wide_Div.j3 kj27 (IntKind.u64.wrap ((IntKind.u64.wrap (Int.tdiv (IntKind.u64.wrap (x110000_11)) x10_27)) + (Go.Proofs.Ytohbdjfabghagaa.XWalk.c64 t113 1 0))) (Go.Proofs.Ytohbdjfabghagaa.XWalk.s64 t113 1 0) t114 x10_27 (!((decide (a0_0 < 0)) == (decide (a1 < 0))))) else (none)) = some (r1, r2) := by rw [if_pos rfl] at H; exact H
                          clear H
                          have H := H1
                          clear H1
                          by_cases c60 : 0 ≤ t113
                          · rw [if_pos c60] at H
                            have c60b0 := eq_true c60
                            have c60b1 : decide (0 ≤ t113) = true := decide_eq_true c60
                            clear c60
                            have H' := Aside0.mk H
                            clear H
                            have hnb61 := NB112_107.out
                            have hnc61 := NB107_112.out
                            have hnb62 := NB112_108.out
                            have hnc62 := NB108_112.out
                            have hnb63 := NB112_109.out
                            have hnc63 := NB109_112.out
                            have hcz64_0 : w58.cell? ⟨gb112, 0, none⟩ = some (.int .u64 (IntKind.u64.wrap (Int.tdiv (IntKind.u64.wrap (x110000_11)) x10_27))) := (blk_cell BK112.out 0).trans rfl
                            have hcz64_1 : w58.cell? ⟨gb112, 1, none⟩ = some (.int .u64 t113) := (blk_cell BK112.out 1).trans rfl
                            have hcz64_2 : w58.cell? ⟨gb112, 2, none⟩ = some (.int .u64 t114) := (blk_cell BK112.out 2).trans rfl
                            have hcz64_3 : w58.cell? ⟨gb112, 3, none⟩ = some (.int .u64 x10_27) := (blk_cell BK112.out 3).trans rfl
                            have hcz64_4 : w58.cell? ⟨gb112, 4, none⟩ = some (.bool (!((decide (a0_0 < 0)) == (decide (a1 < 0))))) := (blk_cell BK112.out 4).trans rfl
                            have hfz64_0 := blk_frozen BK112.out 0
                            have hfz64_1 := blk_frozen BK112.out 1
                            have hfz64_2 := blk_frozen BK112.out 2
                            have hfz64_3 := blk_frozen BK112.out 3
                            have hfz64_4 := blk_frozen BK112.out 4
                            have hx65 := fun W => math_bits_Add64.run t113 1 0 W (by first | omega | exact of_decide_eq_true (by first | (with_reducible assumption) | assumption) | exact of_eq_true (by assumption)) (by first | omega | exact of_decide_eq_true (by first | (with_reducible assumption) | assumption) | exact of_eq_true (by assumption)) (by first | omega | exact of_decide_eq_true (by first | (with_reducible assumption) | assumption) | exact of_eq_true (by assumption)) (by first | omega | exact of_decide_eq_true (by first | (with_reducible assumption) | assumption) | exact of_eq_true (by assumption))
                            go_wp2
                            go_meet
                            case rel => exact ⟨_, (IntKind.u64.wrap ((IntKind.u64.wrap (Int.tdiv (IntKind.u64.wrap (x110000_11)) x10_27)) + (Go.Proofs.Ytohbdjfabghagaa.XWalk.c64 t113 1 0))), (Go.Proofs.Ytohbdjfabghagaa.XWalk.s64 t113 1 0), H', ⟨by have := HJ3.out; have := HJ11.out; have := HJ27.out; first | omega | exact Nat.le_refl _⟩, ⟨by (with_reducible repeat (first | refine blk_drewN ?_ _ | refine blk_drew ?_ | refine blk_alloc ?_ _)); refine blk_far ?_ NB107_112.out _; (with_reducible repeat (first | refine blk_drewN ?_ _ | refine blk_drew ?_ | refine blk_alloc ?_ _)); refine blk_far ?_ NB107_112.out _; (with_reducible repeat (first | refine blk_drewN ?_ _ | refine blk_drew ?_ | refine blk_alloc ?_ _)); exact BK107.out⟩, ⟨by (with_reducible repeat (first | refine blk_drewN ?_ _ | refine blk_drew ?_ | refine blk_alloc ?_ _)); refine blk_far ?_ NB108_112.out _; (with_reducible repeat (first | refine blk_drewN ?_ _ | refine blk_drew ?_ | refine blk_alloc ?_ _)); refine blk_far ?_ NB108_112.out _; (with_reducible repeat (first | refine blk_drewN ?_ _ | refine blk_drew ?_ | refine blk_alloc ?_ _)); exact BK108.out⟩, ⟨by (with_reducible repeat (first | refine blk_drewN ?_ _ | refine blk_drew ?_ | refine blk_alloc ?_ _)); refine blk_far ?_ NB109_112.out _; (with_reducible repeat (first | refine blk_drewN ?_ _ | refine blk_drew ?_ | refine blk_alloc ?_ _)); refine blk_far ?_ NB109_112.out _; (with_reducible repeat (first | refine blk_drewN ?_ _ | refine blk_drew ?_ | refine blk_alloc ?_ _)); exact BK109.out⟩, ⟨by (with_reducible repeat (first | refine blk_drewN ?_ _ | refine blk_drew ?_ | refine blk_alloc ?_ _)); refine blk_put (cs := #[.int .u64 (IntKind.u64.wrap (Int.tdiv (IntKind.u64.wrap (x110000_11)) x10_27)), .int .u64 (Go.Proofs.Ytohbdjfabghagaa.XWalk.s64 t113 1 0), .int .u64 t114, .int .u64 x10_27, .bool (!((decide (a0_0 < 0)) == (decide (a1 < 0))))]) ?_ 0 _ rfl; (with_reducible repeat (first | refine blk_drewN ?_ _ | refine blk_drew ?_ | refine blk_alloc ?_ _)); refine blk_put (cs := #[.int .u64 (IntKind.u64.wrap (Int.tdiv (IntKind.u64.wrap (x110000_11)) x10_27)), .int .u64 t113, .int .u64 t114, .int .u64 x10_27, .bool (!((decide (a0_0 < 0)) == (decide (a1 < 0))))]) ?_ 1 _ rfl; (with_reducible repeat (first | refine blk_drewN ?_ _ | refine blk_drew ?_ | refine blk_alloc ?_ _)); exact BK112.out⟩, ⟨by repeat (first | (with_reducible first | exact HB.out | apply below_alloc | apply pw_below_drewN | apply below_drew1 | refine below_set ?_ GE107.out | refine below_set ?_ GE108.out | refine below_set ?_ GE109.out | refine below_set ?_ GE112.out) | exact HB.out)⟩⟩
                          · rw [if_neg c60] at H
                            exact absurd H (by simp)
                        · replace c59 := Bool.eq_false_iff.mpr c59
                          subst c59
                          have H1 : (wide_Div.j3 kj27 (IntKind.u64.wrap (Int.tdiv (IntKind.u64.wrap (x110000_11)) x10_27)) t113 t114 x10_27 (!((decide (a0_0 < 0)) == (decide (a1 < 0))))) = some (r1, r2) := by rw [if_neg (show ¬ (false = true) by decide)] at H; exact H
                          clear H
                          have H := H1
                          clear H1
                          have H' := Aside0.mk H
                          clear H
                          go_wp2
                          go_meet
                          case rel => exact ⟨_, (IntKind.u64.wrap (Int.tdiv (IntKind.u64.wrap (x110000_11)) x10_27)), (t113), H', ⟨by have := HJ3.out; have := HJ11.out; have := HJ27.out; first | omega | exact Nat.le_refl _⟩, ⟨by (with_reducible repeat (first | refine blk_drewN ?_ _ | refine blk_drew ?_ | refine blk_alloc ?_ _)); exact BK107.out⟩, ⟨by (with_reducible repeat (first | refine blk_drewN ?_ _ | refine blk_drew ?_ | refine blk_alloc ?_ _)); exact BK108.out⟩, ⟨by (with_reducible repeat (first | refine blk_drewN ?_ _ | refine blk_drew ?_ | refine blk_alloc ?_ _)); exact BK109.out⟩, ⟨by (with_reducible repeat (first | refine blk_drewN ?_ _ | refine blk_drew ?_ | refine blk_alloc ?_ _)); exact BK112.out⟩, ⟨by repeat (first | (with_reducible first | exact HB.out | apply below_alloc | apply pw_below_drewN | apply below_drew1 | refine below_set ?_ GE107.out | refine below_set ?_ GE108.out | refine below_set ?_ GE109.out | refine below_set ?_ GE112.out) | exact HB.out)⟩⟩
                      case rest =>
                        clear HC34
                        try clear c1
                        try clear c2
                        try clear p2
                        try clear c3
                        try clear c4
                        try clear c5
                        try clear hx5
                        try clear c6
                        try clear hx6
                        try clear c7
                        try clear c9
                        try clear c9b0
                        try clear c10
                        try clear c11
                        try clear c11b0
                        try clear c11b1
                        try clear c13
                        try clear c16
                        try clear c17
                        try clear c20
                        try clear c20b0
                        try clear c22
                        try clear c23
                        try clear c26
                        try clear c29
                        try clear c29b0
                        try clear c30
                        try clear c30b0
                        try clear c30b1
                        try clear c32
                        try clear c32b0
                        try clear c32b1
                        try clear c35
                        try clear c36
                        try clear c39
                        try clear c40
                        try clear c41
                        try clear c46
                        try clear c48
                        try clear c49
                        try clear hx57
                        try clear c59
                        try clear c60
                        try clear c60b0
                        try clear c60b1
                        try clear c61
                        try clear c62
                        try clear c63
                        try clear c64
                        try clear hx65
                        try clear hcz14_0
                        try clear hcz14_1
                        try clear hcz18_0
                        try clear hcz18_1
                        try clear hcz19_0
                        try clear hcz19_1
                        try clear hcz24_0
                        try clear hcz24_1
                        try clear hcz27_0
                        try clear hcz27_1
                        try clear hcz37_0
                        try clear hcz37_1
                        try clear hcz42_0
                        try clear hcz42_1
                        try clear hcz42_2
                        try clear hcz42_3
                        try clear hcz42_4
                        try clear hcz48_0
                        try clear hcz48_1
                        try clear hcz48_2
                        try clear hcz48_3
                        try clear hcz48_4
                        try clear hcz50_0
                        try clear hcz50_1
                        try clear hcz51_0
                        try clear hcz51_1
                        try clear hcz52_0
                        try clear hcz52_1
                        try clear hcz53_0
                        try clear hcz53_1
                        try clear hcz54_0
                        try clear hcz54_1
                        try clear hcz54_2
                        try clear hcz54_3
                        try clear hcz54_4
                        try clear hcz64_0
                        try clear hcz64_1
                        try clear hcz64_2
                        try clear hcz64_3
                        try clear hcz64_4
                        try clear hcz8_0
                        try clear hcz8_1
                        try clear hfz14_0
                        try clear hfz14_1
                        try clear hfz18_0
                        try clear hfz18_1
                        try clear hfz19_0
                        try clear hfz19_1
                        try clear hfz24_0
                        try clear hfz24_1
                        try clear hfz27_0
                        try clear hfz27_1
                        try clear hfz37_0
                        try clear hfz37_1
                        try clear hfz42_0
                        try clear hfz42_1
                        try clear hfz42_2
                        try clear hfz42_3
                        try clear hfz42_4
                        try clear hfz48_0
                        try clear hfz48_1
                        try clear hfz48_2
                        try clear hfz48_3
                        try clear hfz48_4
                        try clear hfz50_0
                        try clear hfz50_1
                        try clear hfz51_0
                        try clear hfz51_1
                        try clear hfz52_0
                        try clear hfz52_1
                        try clear hfz53_0
                        try clear hfz53_1
                        try clear hfz54_0
                        try clear hfz54_1
                        try clear hfz54_2
                        try clear hfz54_3
                        try clear hfz54_4
                        try clear hfz64_0
                        try clear hfz64_1
                        try clear hfz64_2
                        try clear hfz64_3
                        try clear hfz64_4
                        try clear hfz8_0
                        try clear hfz8_1
                        try clear p2
                        obtain ⟨kq, x113000_33, x113001_33, HA, HJ33, BK107, BK108, BK109, BK112, HB⟩ := hcut
                        cases kq with
                        | zero => exact absurd HA.out (by simp [wide_Div.j3])
                        | succ kj33 =>
                          have H := HA.out
                          clear HA
                          simp only [wide_Div.j3] at H
                          by_cases c66 : x113000_33 > 0
                          · rw [if_pos c66] at H
                            have c66b0 : decide (0 < x113000_33) = true := decide_eq_true c66
                            clear c66
                            simp only [Option.some.injEq, Prod.mk.injEq] at H
                            obtain ⟨rfl, rfl⟩ := H
                            have hnb67 := NB112_107.out
                            have hnc67 := NB107_112.out
                            have hnb68 := NB112_108.out
                            have hnc68 := NB108_112.out
                            have hnb69 := NB112_109.out
                            have hnc69 := NB109_112.out
                            have hcz70_0 : wc.cell? ⟨gb112, 0, none⟩ = some (.int .u64 x113000_33) := (blk_cell BK112.out 0).trans rfl
                            have hcz70_1 : wc.cell? ⟨gb112, 1, none⟩ = some (.int .u64 x113001_33) := (blk_cell BK112.out 1).trans rfl
                            have hcz70_2 : wc.cell? ⟨gb112, 2, none⟩ = some (.int .u64 t114) := (blk_cell BK112.out 2).trans rfl
                            have hcz70_3 : wc.cell? ⟨gb112, 3, none⟩ = some (.int .u64 x10_27) := (blk_cell BK112.out 3).trans rfl
                            have hcz70_4 : wc.cell? ⟨gb112, 4, none⟩ = some (.bool (!((decide (a0_0 < 0)) == (decide (a1 < 0))))) := (blk_cell BK112.out 4).trans rfl
                            have hfz70_0 := blk_frozen BK112.out 0
                            have hfz70_1 := blk_frozen BK112.out 1
                            have hfz70_2 := blk_frozen BK112.out 2
                            have hfz70_3 := blk_frozen BK112.out 3
                            have hfz70_4 := blk_frozen BK112.out 4
                            go_wp2
                            go_ret2
                            exact ⟨by first | rfl | (simp [errW_none, errW_some] <;> rfl) | (simp [*, errW_none, errW_some] <;> rfl), by repeat (first | (with_reducible first | exact HB.out | apply below_alloc | apply pw_below_drewN | apply below_drew1 | refine below_set ?_ GE107.out | refine below_set ?_ GE108.out | refine below_set ?_ GE109.out | refine below_set ?_ GE112.out) | exact HB.out)⟩
                          · rw [if_neg c66] at H
                            have c66b0 : decide (0 < x113000_33) = false := decide_eq_false c66
                            clear c66
                            have HC71 := Aside0.mk H
                            clear H
                            have hnb72 := NB112_107.out
                            have hnc72 := NB107_112.out
                            have hnb73 := NB112_108.out
                            have hnc73 := NB108_112.out
                            have hnb74 := NB112_109.out
                            have hnc74 := NB109_112.out
                            have hcz75_0 : wc.cell? ⟨gb112, 0, none⟩ = some (.int .u64 x113000_33) := (blk_cell BK112.out 0).trans rfl
                            have hcz75_1 : wc.cell? ⟨gb112, 1, none⟩ = some (.int .u64 x113001_33) := (blk_cell BK112.out 1).trans rfl
                            have hcz75_2 : wc.cell? ⟨gb112, 2, none⟩ = some (.int .u64 t114) := (blk_cell BK112.out 2).trans rfl
                            have hcz75_3 : wc.cell? ⟨gb112, 3, none⟩ = some (.int .u64 x10_27) := (blk_cell BK112.out 3).trans rfl
                            have hcz75_4 : wc.cell? ⟨gb112, 4, none⟩ = some (.bool (!((decide (a0_0 < 0)) == (decide (a1 < 0))))) := (blk_cell BK112.out 4).trans rfl
                            have hfz75_0 := blk_frozen BK112.out 0
                            have hfz75_1 := blk_frozen BK112.out 1
                            have hfz75_2 := blk_frozen BK112.out 2
                            have hfz75_3 := blk_frozen BK112.out 3
                            have hfz75_4 := blk_frozen BK112.out 4
                            go_upto_region 19 with (fail)
                            go_cut [90] (fun v90 wc => ∃ (kq : Nat) (x90_70 : Bool), v90 = .bool x90_70 ∧ Aside0 (wide_Div.j4 kq x90_70 x113000_33 x113001_33 t114 x10_27 (!((decide (a0_0 < 0)) == (decide (a1 < 0)))) = some (r1, r2)) ∧ Aside0 (kq ≤ kj33) ∧ Aside0 (wc.heap[gb107]? = some (.cells #[.int .i64 a0_0, .int .u64 a0_1] 24 (0, 0))) ∧ Aside0 (wc.heap[gb108]? = some (.cells #[.func (.func 46) #[] #[], .func (.func 47) #[] #[]] 68 (0, 0))) ∧ Aside0 (wc.heap[gb109]? = some (.cells #[.int .i64 x110000_11, .int .u64 x110001_11] 24 (0, 0))) ∧ Aside0 (wc.heap[gb112]? = some (.cells #[.int .u64 x113000_33, .int .u64 x113001_33, .int .u64 t114, .int .u64 x10_27, .bool (!((decide (a0_0 < 0)) == (decide (a1 < 0))))] 67 (0, 0))) ∧ Aside0 (Below w.heap.size w wc))
                            case first =>
                              have H := HC71.out
                              clear HC71
                              by_cases c76 : (!((decide (a0_0 < 0)) == (decide (a1 < 0)))) = true
                              · rw [if_pos c76] at H
                                have c76b0 : (!((decide (a0_0 < 0)) == (decide (a1 < 0)))) = true := c76
                                clear c76
                                (first | rw [c76b0] | (simp only [i64_w, i32_w]; rw [c76b0]) | skip)
                                have H' := Aside0.mk H
                                clear H
                                have hnb77 := NB112_107.out
                                have hnc77 := NB107_112.out
                                have hnb78 := NB112_108.out
                                have hnc78 := NB108_112.out
                                have hnb79 := NB112_109.out
                                have hnc79 := NB109_112.out
                                have hcz80_0 : wc.cell? ⟨gb112, 0, none⟩ = some (.int .u64 x113000_33) := (blk_cell BK112.out 0).trans rfl
                                have hcz80_1 : wc.cell? ⟨gb112, 1, none⟩ = some (.int .u64 x113001_33) := (blk_cell BK112.out 1).trans rfl
                                have hcz80_2 : wc.cell? ⟨gb112, 2, none⟩ = some (.int .u64 t114) := (blk_cell BK112.out 2).trans rfl
                                have hcz80_3 : wc.cell? ⟨gb112, 3, none⟩ = some (.int .u64 x10_27) := (blk_cell BK112.out 3).trans rfl
                                have hcz80_4 : wc.cell? ⟨gb112, 4, none⟩ = some (.bool (!((decide (a0_0 < 0)) == (decide (a1 < 0))))) := (blk_cell BK112.out 4).trans rfl
                                have hfz80_0 := blk_frozen BK112.out 0
                                have hfz80_1 := blk_frozen BK112.out 1
                                have hfz80_2 := blk_frozen BK112.out 2
                                have hfz80_3 := blk_frozen BK112.out 3
                                have hfz80_4 := blk_frozen BK112.out 4
                                go_wp2
                                go_meet
                                case rel => exact ⟨_, (decide (x113001_33 ≤ 9223372036854775808)), (by first | rfl | (simp; done) | (simp [*]; done)), H', ⟨by have := HJ3.out; have := HJ11.out; have := HJ27.out; have := HJ33.out; first | omega | exact Nat.le_refl _⟩, ⟨by (with_reducible repeat (first | refine blk_drewN ?_ _ | refine blk_drew ?_ | refine blk_alloc ?_ _)); exact BK107.out⟩, ⟨by (with_reducible repeat (first | refine blk_drewN ?_ _ | refine blk_drew ?_ | refine blk_alloc ?_ _)); exact BK108.out⟩, ⟨by (with_reducible repeat (first | refine blk_drewN ?_ _ | refine blk_drew ?_ | refine blk_alloc ?_ _)); exact BK109.out⟩, ⟨by (with_reducible repeat (first | refine blk_drewN ?_ _ | refine blk_drew ?_ | refine blk_alloc ?_ _)); exact BK112.out⟩, ⟨by repeat (first | (with_reducible first | exact HB.out | apply below_alloc | apply pw_below_drewN | apply below_drew1 | refine below_set ?_ GE107.out | refine below_set ?_ GE108.out | refine below_set ?_ GE109.out | refine below_set ?_ GE112.out) | exact HB.out)⟩⟩
                              · rw [if_neg c76] at H
                                have c76b0 : (!((decide (a0_0 < 0)) == (decide (a1 < 0)))) = false := by simpa using c76
                                clear c76
                                (first | rw [c76b0] | (simp only [i64_w, i32_w]; rw [c76b0]) | skip)
                                have H' := Aside0.mk H
                                clear H
                                have hnb81 := NB112_107.out
                                have hnc81 := NB107_112.out
                                have hnb82 := NB112_108.out
                                have hnc82 := NB108_112.out
                                have hnb83 := NB112_109.out
                                have hnc83 := NB109_112.out
                                have hcz84_0 : wc.cell? ⟨gb112, 0, none⟩ = some (.int .u64 x113000_33) := (blk_cell BK112.out 0).trans rfl
                                have hcz84_1 : wc.cell? ⟨gb112, 1, none⟩ = some (.int .u64 x113001_33) := (blk_cell BK112.out 1).trans rfl
                                have hcz84_2 : wc.cell? ⟨gb112, 2, none⟩ = some (.int .u64 t114) := (blk_cell BK112.out 2).trans rfl
                                have hcz84_3 : wc.cell? ⟨gb112, 3, none⟩ = some (.int .u64 x10_27) := (blk_cell BK112.out 3).trans rfl
                                have hcz84_4 : wc.cell? ⟨gb112, 4, none⟩ = some (.bool (!((decide (a0_0 < 0)) == (decide (a1 < 0))))) := (blk_cell BK112.out 4).trans rfl
                                have hfz84_0 := blk_frozen BK112.out 0
                                have hfz84_1 := blk_frozen BK112.out 1
                                have hfz84_2 := blk_frozen BK112.out 2
                                have hfz84_3 := blk_frozen BK112.out 3
                                have hfz84_4 := blk_frozen BK112.out 4
                                go_wp2
                                go_meet
                                case rel => exact ⟨_, (false), (by first | rfl | (simp; done) | (simp [*]; done)), H', ⟨by have := HJ3.out; have := HJ11.out; have := HJ27.out; have := HJ33.out; first | omega | exact Nat.le_refl _⟩, ⟨by (with_reducible repeat (first | refine blk_drewN ?_ _ | refine blk_drew ?_ | refine blk_alloc ?_ _)); exact BK107.out⟩, ⟨by (with_reducible repeat (first | refine blk_drewN ?_ _ | refine blk_drew ?_ | refine blk_alloc ?_ _)); exact BK108.out⟩, ⟨by (with_reducible repeat (first | refine blk_drewN ?_ _ | refine blk_drew ?_ | refine blk_alloc ?_ _)); exact BK109.out⟩, ⟨by (with_reducible repeat (first | refine blk_drewN ?_ _ | refine blk_drew ?_ | refine blk_alloc ?_ _)); exact BK112.out⟩, ⟨by repeat (first | (with_reducible first | exact HB.out | apply below_alloc | apply pw_below_drewN | apply below_drew1 | refine below_set ?_ GE107.out | refine below_set ?_ GE108.out | refine below_set ?_ GE109.out | refine below_set ?_ GE112.out) | exact HB.out)⟩⟩
                            case rest =>
                              clear HC71
                              try clear c1
                              try clear c2
                              try clear p2
                              try clear c3
                              try clear c4
                              try clear c5
                              try clear hx5
                              try clear c6
                              try clear hx6
                              try clear c7
                              try clear c8
                              try clear c9
                              try clear c9b0
                              try clear c10
                              try clear c11
                              try clear c11b0
                              try clear c11b1
                              try clear c13
                              try clear c16
                              try clear c17
                              try clear c20
                              try clear c20b0
                              try clear c22
                              try clear c23
                              try clear c26
                              try clear c29
                              try clear c29b0
                              try clear c30
                              try clear c30b0
                              try clear c30b1
                              try clear c32
                              try clear c32b0
                              try clear c32b1
                              try clear c35
                              try clear c36
                              try clear c39
                              try clear c40
                              try clear c41
                              try clear c46
                              try clear c48
                              try clear c49
                              try clear hx57
                              try clear c59
                              try clear c60
                              try clear c60b0
                              try clear c60b1
                              try clear c61
                              try clear c62
                              try clear c63
                              try clear c64
                              try clear hx65
                              try clear c66
                              try clear c66b0
                              try clear c67
                              try clear c68
                              try clear c69
                              try clear c72
                              try clear c73
                              try clear c74
                              try clear c76
                              try clear c76b0
                              try clear c77
                              try clear c78
                              try clear c79
                              try clear c81
                              try clear c82
                              try clear c83
                              try clear hcz14_0
                              try clear hcz14_1
                              try clear hcz18_0
                              try clear hcz18_1
                              try clear hcz19_0
                              try clear hcz19_1
                              try clear hcz24_0
                              try clear hcz24_1
                              try clear hcz27_0
                              try clear hcz27_1
                              try clear hcz37_0
                              try clear hcz37_1
                              try clear hcz42_0
                              try clear hcz42_1
                              try clear hcz42_2
                              try clear hcz42_3
                              try clear hcz42_4
                              try clear hcz48_0
                              try clear hcz48_1
                              try clear hcz48_2
                              try clear hcz48_3
                              try clear hcz48_4
                              try clear hcz50_0
                              try clear hcz50_1
                              try clear hcz51_0
                              try clear hcz51_1
                              try clear hcz52_0
                              try clear hcz52_1
                              try clear hcz53_0
                              try clear hcz53_1
                              try clear hcz54_0
                              try clear hcz54_1
                              try clear hcz54_2
                              try clear hcz54_3
                              try clear hcz54_4
                              try clear hcz64_0
                              try clear hcz64_1
                              try clear hcz64_2
                              try clear hcz64_3
                              try clear hcz64_4
                              try clear hcz70_0
                              try clear hcz70_1
                              try clear hcz70_2
                              try clear hcz70_3
                              try clear hcz70_4
                              try clear hcz75_0
                              try clear hcz75_1
                              try clear hcz75_2
                              try clear hcz75_3
                              try clear hcz75_4
                              try clear hcz80_0
                              try clear hcz80_1
                              try clear hcz80_2
                              try clear hcz80_3
                              try clear hcz80_4
                              try clear hcz84_0
                              try clear hcz84_1
                              try clear hcz84_2
                              try clear hcz84_3
                              try clear hcz84_4
                              try clear hcz8_0
                              try clear hcz8_1
                              try clear hfz14_0
                              try clear hfz14_1
                              try clear hfz18_0
                              try clear hfz18_1
                              try clear hfz19_0
                              try clear hfz19_1
                              try clear hfz24_0
                              try clear hfz24_1
                              try clear hfz27_0
                              try clear hfz27_1
                              try clear hfz37_0
                              try clear hfz37_1
                              try clear hfz42_0
                              try clear hfz42_1
                              try clear hfz42_2
                              try clear hfz42_3
                              try clear hfz42_4
                              try clear hfz48_0
                              try clear hfz48_1
                              try clear hfz48_2
                              try clear hfz48_3
                              try clear hfz48_4
                              try clear hfz50_0
                              try clear hfz50_1
                              try clear hfz51_0
                              try clear hfz51_1
                              try clear hfz52_0
                              try clear hfz52_1
                              try clear hfz53_0
                              try clear hfz53_1
                              try clear hfz54_0
                              try clear hfz54_1
                              try clear hfz54_2
                              try clear hfz54_3
                              try clear hfz54_4
                              try clear hfz64_0
                              try clear hfz64_1
                              try clear hfz64_2
                              try clear hfz64_3
                              try clear hfz64_4
                              try clear hfz70_0
                              try clear hfz70_1
                              try clear hfz70_2
                              try clear hfz70_3
                              try clear hfz70_4
                              try clear hfz75_0
                              try clear hfz75_1
                              try clear hfz75_2
                              try clear hfz75_3
                              try clear hfz75_4
                              try clear hfz80_0
                              try clear hfz80_1
                              try clear hfz80_2
                              try clear hfz80_3
                              try clear hfz80_4
                              try clear hfz84_0
                              try clear hfz84_1
                              try clear hfz84_2
                              try clear hfz84_3
                              try clear hfz84_4
                              try clear hfz8_0
                              try clear hfz8_1
                              try clear p2
                              obtain ⟨kq, x90_70, rfl, HA, HJ70, BK107, BK108, BK109, BK112, HB⟩ := hcut
                              cases kq with
                              | zero => exact absurd HA.out (by simp [wide_Div.j4])
                              | succ kj70 =>
                                have H := HA.out
                                clear HA
                                simp only [wide_Div.j4] at H
                                by_cases c85 : x90_70 = true
                                · subst c85
                                  have H1 : (some (wrap64 (IntKind.u64.wrap (-x113001_33)), 0)) = some (r1, r2) := by rw [if_pos rfl] at H; exact H
                                  clear H
                                  have H := H1
                                  clear H1
                                  simp only [Option.some.injEq, Prod.mk.injEq] at H
                                  obtain ⟨rfl, rfl⟩ := H
                                  have hnb86 := NB112_107.out
                                  have hnc86 := NB107_112.out
                                  have hnb87 := NB112_108.out
                                  have hnc87 := NB108_112.out
                                  have hnb88 := NB112_109.out
                                  have hnc88 := NB109_112.out
                                  have hcz89_0 : wc.cell? ⟨gb112, 0, none⟩ = some (.int .u64 x113000_33) := (blk_cell BK112.out 0).trans rfl
                                  have hcz89_1 : wc.cell? ⟨gb112, 1, none⟩ = some (.int .u64 x113001_33) := (blk_cell BK112.out 1).trans rfl
                                  have hcz89_2 : wc.cell? ⟨gb112, 2, none⟩ = some (.int .u64 t114) := (blk_cell BK112.out 2).trans rfl
                                  have hcz89_3 : wc.cell? ⟨gb112, 3, none⟩ = some (.int .u64 x10_27) := (blk_cell BK112.out 3).trans rfl
                                  have hcz89_4 : wc.cell? ⟨gb112, 4, none⟩ = some (.bool (!((decide (a0_0 < 0)) == (decide (a1 < 0))))) := (blk_cell BK112.out 4).trans rfl
                                  have hfz89_0 := blk_frozen BK112.out 0
                                  have hfz89_1 := blk_frozen BK112.out 1
                                  have hfz89_2 := blk_frozen BK112.out 2
                                  have hfz89_3 := blk_frozen BK112.out 3
                                  have hfz89_4 := blk_frozen BK112.out 4
                                  go_wp2
                                  go_ret2
                                  exact ⟨by first | rfl | (simp [errW_none, errW_some] <;> rfl) | (simp [*, errW_none, errW_some] <;> rfl), by repeat (first | (with_reducible first | exact HB.out | apply below_alloc | apply pw_below_drewN | apply below_drew1 | refine below_set ?_ GE107.out | refine below_set ?_ GE108.out | refine below_set ?_ GE109.out | refine below_set ?_ GE112.out) | exact HB.out)⟩
                                · replace c85 := Bool.eq_false_iff.mpr c85
                                  subst c85
                                  have H1 : (if (!((decide (a0_0 < 0)) == (decide (a1 < 0)))) = true then (some (0, 3)) else (if x113001_33 < 9223372036854775808 then (some (wrap64 (x113001_33), 0)) else (some (0, 3)))) = some (r1, r2) := by rw [if_neg (show ¬ (false = true) by decide)] at H; exact H
                                  clear H
                                  have H := H1
                                  clear H1
                                  by_cases c90 : (!((decide (a0_0 < 0)) == (decide (a1 < 0)))) = true
                                  · rw [if_pos c90] at H
                                    have c90b0 : (!((decide (a0_0 < 0)) == (decide (a1 < 0)))) = true := c90
                                    clear c90
                                    simp only [Option.some.injEq, Prod.mk.injEq] at H
                                    obtain ⟨rfl, rfl⟩ := H
                                    have hnb91 := NB112_107.out
                                    have hnc91 := NB107_112.out
                                    have hnb92 := NB112_108.out
                                    have hnc92 := NB108_112.out
                                    have hnb93 := NB112_109.out
                                    have hnc93 := NB109_112.out
                                    have hcz94_0 : wc.cell? ⟨gb112, 0, none⟩ = some (.int .u64 x113000_33) := (blk_cell BK112.out 0).trans rfl
                                    have hcz94_1 : wc.cell? ⟨gb112, 1, none⟩ = some (.int .u64 x113001_33) := (blk_cell BK112.out 1).trans rfl
                                    have hcz94_2 : wc.cell? ⟨gb112, 2, none⟩ = some (.int .u64 t114) := (blk_cell BK112.out 2).trans rfl
                                    have hcz94_3 : wc.cell? ⟨gb112, 3, none⟩ = some (.int .u64 x10_27) := (blk_cell BK112.out 3).trans rfl
                                    have hcz94_4 : wc.cell? ⟨gb112, 4, none⟩ = some (.bool (!((decide (a0_0 < 0)) == (decide (a1 < 0))))) := (blk_cell BK112.out 4).trans rfl
                                    have hfz94_0 := blk_frozen BK112.out 0
                                    have hfz94_1 := blk_frozen BK112.out 1
                                    have hfz94_2 := blk_frozen BK112.out 2
                                    have hfz94_3 := blk_frozen BK112.out 3
                                    have hfz94_4 := blk_frozen BK112.out 4
                                    go_wp2
                                    go_ret2
                                    exact ⟨by first | rfl | (simp [errW_none, errW_some] <;> rfl) | (simp [*, errW_none, errW_some] <;> rfl), by repeat (first | (with_reducible first | exact HB.out | apply below_alloc | apply pw_below_drewN | apply below_drew1 | refine below_set ?_ GE107.out | refine below_set ?_ GE108.out | refine below_set ?_ GE109.out | refine below_set ?_ GE112.out) | exact HB.out)⟩
                                  · rw [if_neg c90] at H
                                    have c90b0 : (!((decide (a0_0 < 0)) == (decide (a1 < 0)))) = false := by simpa using c90
                                    clear c90
                                    by_cases c95 : x113001_33 < 9223372036854775808
                                    · rw [if_pos c95] at H
                                      have c95b0 : decide (x113001_33 < 9223372036854775808) = true := decide_eq_true c95
                                      clear c95
                                      simp only [Option.some.injEq, Prod.mk.injEq] at H
                                      obtain ⟨rfl, rfl⟩ := H
                                      have hnb96 := NB112_107.out
                                      have hnc96 := NB107_112.out
                                      have hnb97 := NB112_108.out
                                      have hnc97 := NB108_112.out
                                      have hnb98 := NB112_109.out
                                      have hnc98 := NB109_112.out
                                      have hcz99_0 : wc.cell? ⟨gb112, 0, none⟩ = some (.int .u64 x113000_33) := (blk_cell BK112.out 0).trans rfl
                                      have hcz99_1 : wc.cell? ⟨gb112, 1, none⟩ = some (.int .u64 x113001_33) := (blk_cell BK112.out 1).trans rfl
                                      have hcz99_2 : wc.cell? ⟨gb112, 2, none⟩ = some (.int .u64 t114) := (blk_cell BK112.out 2).trans rfl
                                      have hcz99_3 : wc.cell? ⟨gb112, 3, none⟩ = some (.int .u64 x10_27) := (blk_cell BK112.out 3).trans rfl
                                      have hcz99_4 : wc.cell? ⟨gb112, 4, none⟩ = some (.bool (!((decide (a0_0 < 0)) == (decide (a1 < 0))))) := (blk_cell BK112.out 4).trans rfl
                                      have hfz99_0 := blk_frozen BK112.out 0
                                      have hfz99_1 := blk_frozen BK112.out 1
                                      have hfz99_2 := blk_frozen BK112.out 2
                                      have hfz99_3 := blk_frozen BK112.out 3
                                      have hfz99_4 := blk_frozen BK112.out 4
                                      go_wp2
                                      go_ret2
                                      exact ⟨by first | rfl | (simp [errW_none, errW_some] <;> rfl) | (simp [*, errW_none, errW_some] <;> rfl), by repeat (first | (with_reducible first | exact HB.out | apply below_alloc | apply pw_below_drewN | apply below_drew1 | refine below_set ?_ GE107.out | refine below_set ?_ GE108.out | refine below_set ?_ GE109.out | refine below_set ?_ GE112.out) | exact HB.out)⟩
                                    · rw [if_neg c95] at H
                                      have c95b0 : decide (x113001_33 < 9223372036854775808) = false := decide_eq_false c95
                                      clear c95
                                      simp only [Option.some.injEq, Prod.mk.injEq] at H
                                      obtain ⟨rfl, rfl⟩ := H
                                      have hnb100 := NB112_107.out
                                      have hnc100 := NB107_112.out
                                      have hnb101 := NB112_108.out
                                      have hnc101 := NB108_112.out
                                      have hnb102 := NB112_109.out
                                      have hnc102 := NB109_112.out
                                      have hcz103_0 : wc.cell? ⟨gb112, 0, none⟩ = some (.int .u64 x113000_33) := (blk_cell BK112.out 0).trans rfl
                                      have hcz103_1 : wc.cell? ⟨gb112, 1, none⟩ = some (.int .u64 x113001_33) := (blk_cell BK112.out 1).trans rfl
                                      have hcz103_2 : wc.cell? ⟨gb112, 2, none⟩ = some (.int .u64 t114) := (blk_cell BK112.out 2).trans rfl
                                      have hcz103_3 : wc.cell? ⟨gb112, 3, none⟩ = some (.int .u64 x10_27) := (blk_cell BK112.out 3).trans rfl
                                      have hcz103_4 : wc.cell? ⟨gb112, 4, none⟩ = some (.bool (!((decide (a0_0 < 0)) == (decide (a1 < 0))))) := (blk_cell BK112.out 4).trans rfl
                                      have hfz103_0 := blk_frozen BK112.out 0
                                      have hfz103_1 := blk_frozen BK112.out 1
                                      have hfz103_2 := blk_frozen BK112.out 2
                                      have hfz103_3 := blk_frozen BK112.out 3
                                      have hfz103_4 := blk_frozen BK112.out 4
                                      go_wp2
                                      go_ret2
                                      exact ⟨by first | rfl | (simp [errW_none, errW_some] <;> rfl) | (simp [*, errW_none, errW_some] <;> rfl), by repeat (first | (with_reducible first | exact HB.out | apply below_alloc | apply pw_below_drewN | apply below_drew1 | refine below_set ?_ GE107.out | refine below_set ?_ GE108.out | refine below_set ?_ GE109.out | refine below_set ?_ GE112.out) | exact HB.out)⟩
                    · rw [if_neg c32] at H
                      have c32b0 : (a2 == 0) = false := beq_eq_false_iff_ne.mpr c32
                      have c32b1 : (a2 != 0) = true := bne_iff_ne.mpr c32
                      by_cases c104 : a2 = 1
                      · rw [if_pos c104] at H
                        have c104b0 : (a2 == 1) = true := beq_iff_eq.mpr c104
                        have c104b1 : (a2 != 1) = false := bne_eq_false_iff_eq.mpr c104
                        clear c104
                        replace H := Option.bind_eq_some_iff.mp H
                        obtain ⟨t116, A1050, H⟩ := H
                        replace H : (if t116 = true then (if 0 ≤ t113 then (wide_Div.j5 kj27 (IntKind.u64.wrap ((IntKind.u64.wrap (Int.tdiv (IntKind.u64.wrap (x110000_11)) x10_27)) + (Go.Proofs.Ytohbdjfabghagaa.XWalk.c64 t113 1 0))) (Go.Proofs.Ytohbdjfabghagaa.XWalk.s64 t113 1 0) t114 x10_27 (!((decide (a0_0 < 0)) == (decide (a1 < 0))))) else (none)) else (wide_Div.j5 kj27 (IntKind.u64.wrap (Int.tdiv (IntKind.u64.wrap (x110000_11)) x10_27)) t113 t114 x10_27 (!((decide (a0_0 < 0)) == (decide (a1 < 0)))))) = some (r1, r2) := H
                        have A105 := Aside0.mk A1050
                        clear A1050
                        have HC106 := Aside0.mk H
                        clear H
                        have hnb107 := NB107_108.out
                        have hnc107 := NB108_107.out
                        have hnb108 := NB107_109.out
                        have hnc108 := NB109_107.out
                        have hcz109_0 : wc.cell? ⟨gb107, 0, none⟩ = some (.int .i64 a0_0) := (blk_cell BK107.out 0).trans rfl
                        have hcz109_1 : wc.cell? ⟨gb107, 1, none⟩ = some (.int .u64 a0_1) := (blk_cell BK107.out 1).trans rfl
                        have hfz109_0 := blk_frozen BK107.out 0
                        have hfz109_1 := blk_frozen BK107.out 1
                        try go_wp2_with (first | ((with_reducible refine gate_dst (N := 11) rfl ?_); refine box_event ?hg (N := 11) ?hd (cs := #[.int .u64 0, .int .u64 0, .int .u64 0, .int .u64 0, .bool false]) (t := 67) ?hr ?_; (case hd => rfl); (case hg => rfl); (case hr => first | (go_simp; done) | (go_simp; rfl)); intro gb112 hg w110 hbox hb; have n0_ := Aside0.mk (blk_below (g := gb107) (o := .cells #[.int .i64 a0_0, .int .u64 a0_1] 24 (0, 0)) (by (with_reducible repeat (first | refine blk_drewN ?_ _ | refine blk_drew ?_ | refine blk_alloc ?_ _)); exact BK107.out) hb); have n1_ := Aside0.mk (blk_below (g := gb108) (o := .cells #[.func (.func 46) #[] #[], .func (.func 47) #[] #[]] 68 (0, 0)) (by (with_reducible repeat (first | refine blk_drewN ?_ _ | refine blk_drew ?_ | refine blk_alloc ?_ _)); exact BK108.out) hb); have n2_ := Aside0.mk (blk_below (g := gb109) (o := .cells #[.int .i64 x110000_11, .int .u64 x110001_11] 24 (0, 0)) (by (with_reducible repeat (first | refine blk_drewN ?_ _ | refine blk_drew ?_ | refine blk_alloc ?_ _)); exact BK109.out) hb); have n3_ := Aside0.mk (below_step (by repeat (first | (with_reducible first | exact HB.out | apply below_alloc | apply pw_below_drewN | apply below_drew1 | refine below_set ?_ GE107.out | refine below_set ?_ GE108.out | refine below_set ?_ GE109.out) | exact HB.out)) hb); have n4_ := Aside0.mk (hbox); have n5_ := Aside0.mk ((by rw [hg]; exact (below_size (by repeat (first | (with_reducible first | exact HB.out | apply below_alloc | apply pw_below_drewN | apply below_drew1 | refine below_set ?_ GE107.out | refine below_set ?_ GE108.out | refine below_set ?_ GE109.out) | exact HB.out))) : w.heap.size ≤ gb112)); have n6_ := Aside0.mk ((by rw [hg]; exact (below_size (by repeat (first | (with_reducible first | exact HB.out | apply below_alloc | apply pw_below_drewN | apply below_drew1 | refine below_set ?_ GE107.out | refine below_set ?_ GE108.out | refine below_set ?_ GE109.out) | exact HB.out))) : w.heap.size ≤ gb112)); have n7_ := Aside0.mk ((by rw [hg]; exact Nat.ne_of_lt (blk_lt (g := gb107) (o := .cells #[.int .i64 a0_0, .int .u64 a0_1] 24 (0, 0)) (by (with_reducible repeat (first | refine blk_drewN ?_ _ | refine blk_drew ?_ | refine blk_alloc ?_ _)); exact BK107.out)) : gb107 ≠ gb112)); have n8_ := Aside0.mk ((by rw [hg]; exact Nat.ne_of_gt (blk_lt (g := gb107) (o := .cells #[.int .i64 a0_0, .int .u64 a0_1] 24 (0, 0)) (by (with_reducible repeat (first | refine blk_drewN ?_ _ | refine blk_drew ?_ | refine blk_alloc ?_ _)); exact BK107.out)) : gb112 ≠ gb107)); have n9_ := Aside0.mk ((by rw [hg]; exact Nat.ne_of_lt (blk_lt (g := gb108) (o := .cells #[.func (.func 46) #[] #[], .func (.func 47) #[] #[]] 68 (0, 0)) (by (with_reducible repeat (first | refine blk_drewN ?_ _ | refine blk_drew ?_ | refine blk_alloc ?_ _)); exact BK108.out)) : gb108 ≠ gb112)); have n10_ := Aside0.mk ((by rw [hg]; exact Nat.ne_of_gt (blk_lt (g := gb108) (o := .cells #[.func (.func 46) #[] #[], .func (.func 47) #[] #[]] 68 (0, 0)) (by (with_reducible repeat (first | refine blk_drewN ?_ _ | refine blk_drew ?_ | refine blk_alloc ?_ _)); exact BK108.out)) : gb112 ≠ gb108)); have n11_ := Aside0.mk ((by rw [hg]; exact Nat.ne_of_lt (blk_lt (g := gb109) (o := .cells #[.int .i64 x110000_11, .int .u64 x110001_11] 24 (0, 0)) (by (with_reducible repeat (first | refine blk_drewN ?_ _ | refine blk_drew ?_ | refine blk_alloc ?_ _)); exact BK109.out)) : gb109 ≠ gb112)); have n12_ := Aside0.mk ((by rw [hg]; exact Nat.ne_of_gt (blk_lt (g := gb109) (o := .cells #[.int .i64 x110000_11, .int .u64 x110001_11] 24 (0, 0)) (by (with_reducible repeat (first | refine blk_drewN ?_ _ | refine blk_drew ?_ | refine blk_alloc ?_ _)); exact BK109.out)) : gb112 ≠ gb109)); clear BK107; clear BK108; clear BK109; clear HB; have BK107 := n0_; have BK108 := n1_; have BK109 := n2_; have HB := n3_; have BK112 := n4_; have GW112 := n5_; have GE112 := n6_; have NB107_112 := n7_; have NB112_107 := n8_; have NB108_112 := n9_; have NB112_108 := n10_; have NB109_112 := n11_; have NB112_109 := n12_; clear n0_ n1_ n2_ n3_ n4_ n5_ n6_ n7_ n8_ n9_ n10_ n11_ n12_; clear hb hbox hg; have hnb111 := NB112_107.out; have hnc111 := NB107_112.out; have hnb112 := NB112_108.out; have hnc112 := NB108_112.out; have hnb113 := NB112_109.out; have hnc113 := NB109_112.out; have hcz114_0 : w110.cell? ⟨gb112, 0, none⟩ = some (.int .u64 0) := (blk_cell BK112.out 0).trans rfl; have hcz114_1 : w110.cell? ⟨gb112, 1, none⟩ = some (.int .u64 0) := (blk_cell BK112.out 1).trans rfl; have hcz114_2 : w110.cell? ⟨gb112, 2, none⟩ = some (.int .u64 0) := (blk_cell BK112.out 2).trans rfl; have hcz114_3 : w110.cell? ⟨gb112, 3, none⟩ = some (.int .u64 0) := (blk_cell BK112.out 3).trans rfl; have hcz114_4 : w110.cell? ⟨gb112, 4, none⟩ = some (.bool false) := (blk_cell BK112.out 4).trans rfl; have hfz114_0 := blk_frozen BK112.out 0; have hfz114_1 := blk_frozen BK112.out 1; have hfz114_2 := blk_frozen BK112.out 2; have hfz114_3 := blk_frozen BK112.out 3; have hfz114_4 := blk_frozen BK112.out 4))
                        have n0_ : Aside0 ((((((w110.setCell ⟨gb112, 0, none⟩ (.int .u64 0)).setCell ⟨gb112, 1, none⟩ (.int .u64 0)).setCell ⟨gb112, 2, none⟩ (.int .u64 0)).setCell ⟨gb112, 3, none⟩ (.int .u64 x10_27)).setCell ⟨gb112, 4, none⟩ (.bool (!((decide (a0_0 < 0)) == (decide (a1 < 0)))))).heap[gb107]? = some (.cells #[.int .i64 a0_0, .int .u64 a0_1] 24 (0, 0))) := ⟨by (with_reducible repeat (first | refine blk_drewN ?_ _ | refine blk_drew ?_ | refine blk_alloc ?_ _)); refine blk_far ?_ NB107_112.out _; (with_reducible repeat (first | refine blk_drewN ?_ _ | refine blk_drew ?_ | refine blk_alloc ?_ _)); refine blk_far ?_ NB107_112.out _; (with_reducible repeat (first | refine blk_drewN ?_ _ | refine blk_drew ?_ | refine blk_alloc ?_ _)); refine blk_far ?_ NB107_112.out _; (with_reducible repeat (first | refine blk_drewN ?_ _ | refine blk_drew ?_ | refine blk_alloc ?_ _)); refine blk_far ?_ NB107_112.out _; (with_reducible repeat (first | refine blk_drewN ?_ _ | refine blk_drew ?_ | refine blk_alloc ?_ _)); refine blk_far ?_ NB107_112.out _; (with_reducible repeat (first | refine blk_drewN ?_ _ | refine blk_drew ?_ | refine blk_alloc ?_ _)); exact BK107.out⟩
                        have n1_ : Aside0 ((((((w110.setCell ⟨gb112, 0, none⟩ (.int .u64 0)).setCell ⟨gb112, 1, none⟩ (.int .u64 0)).setCell ⟨gb112, 2, none⟩ (.int .u64 0)).setCell ⟨gb112, 3, none⟩ (.int .u64 x10_27)).setCell ⟨gb112, 4, none⟩ (.bool (!((decide (a0_0 < 0)) == (decide (a1 < 0)))))).heap[gb108]? = some (.cells #[.func (.func 46) #[] #[], .func (.func 47) #[] #[]] 68 (0, 0))) := ⟨by (with_reducible repeat (first | refine blk_drewN ?_ _ | refine blk_drew ?_ | refine blk_alloc ?_ _)); refine blk_far ?_ NB108_112.out _; (with_reducible repeat (first | refine blk_drewN ?_ _ | refine blk_drew ?_ | refine blk_alloc ?_ _)); refine blk_far ?_ NB108_112.out _; (with_reducible repeat (first | refine blk_drewN ?_ _ | refine blk_drew ?_ | refine blk_alloc ?_ _)); refine blk_far ?_ NB108_112.out _; (with_reducible repeat (first | refine blk_drewN ?_ _ | refine blk_drew ?_ | refine blk_alloc ?_ _)); refine blk_far ?_ NB108_112.out _; (with_reducible repeat (first | refine blk_drewN ?_ _ | refine blk_drew ?_ | refine blk_alloc ?_ _)); refine blk_far ?_ NB108_112.out _; (with_reducible repeat (first | refine blk_drewN ?_ _ | refine blk_drew ?_ | refine blk_alloc ?_ _)); exact BK108.out⟩
                        have n2_ : Aside0 ((((((w110.setCell ⟨gb112, 0, none⟩ (.int .u64 0)).setCell ⟨gb112, 1, none⟩ (.int .u64 0)).setCell ⟨gb112, 2, none⟩ (.int .u64 0)).setCell ⟨gb112, 3, none⟩ (.int .u64 x10_27)).setCell ⟨gb112, 4, none⟩ (.bool (!((decide (a0_0 < 0)) == (decide (a1 < 0)))))).heap[gb109]? = some (.cells #[.int .i64 x110000_11, .int .u64 x110001_11] 24 (0, 0))) := ⟨by (with_reducible repeat (first | refine blk_drewN ?_ _ | refine blk_drew ?_ | refine blk_alloc ?_ _)); refine blk_far ?_ NB109_112.out _; (with_reducible repeat (first | refine blk_drewN ?_ _ | refine blk_drew ?_ | refine blk_alloc ?_ _)); refine blk_far ?_ NB109_112.out _; (with_reducible repeat (first | refine blk_drewN ?_ _ | refine blk_drew ?_ | refine blk_alloc ?_ _)); refine blk_far ?_ NB109_112.out _; (with_reducible repeat (first | refine blk_drewN ?_ _ | refine blk_drew ?_ | refine blk_alloc ?_ _)); refine blk_far ?_ NB109_112.out _; (with_reducible repeat (first | refine blk_drewN ?_ _ | refine blk_drew ?_ | refine blk_alloc ?_ _)); refine blk_far ?_ NB109_112.out _; (with_reducible repeat (first | refine blk_drewN ?_ _ | refine blk_drew ?_ | refine blk_alloc ?_ _)); exact BK109.out⟩
                        have n3_ : Aside0 ((((((w110.setCell ⟨gb112, 0, none⟩ (.int .u64 0)).setCell ⟨gb112, 1, none⟩ (.int .u64 0)).setCell ⟨gb112, 2, none⟩ (.int .u64 0)).setCell ⟨gb112, 3, none⟩ (.int .u64 x10_27)).setCell ⟨gb112, 4, none⟩ (.bool (!((decide (a0_0 < 0)) == (decide (a1 < 0)))))).heap[gb112]? = some (.cells #[.int .u64 0, .int .u64 0, .int .u64 0, .int .u64 x10_27, .bool (!((decide (a0_0 < 0)) == (decide (a1 < 0))))] 67 (0, 0))) := ⟨by (with_reducible repeat (first | refine blk_drewN ?_ _ | refine blk_drew ?_ | refine blk_alloc ?_ _)); refine blk_put (cs := #[.int .u64 0, .int .u64 0, .int .u64 0, .int .u64 x10_27, .bool false]) ?_ 4 _ rfl; (with_reducible repeat (first | refine blk_drewN ?_ _ | refine blk_drew ?_ | refine blk_alloc ?_ _)); refine blk_put (cs := #[.int .u64 0, .int .u64 0, .int .u64 0, .int .u64 0, .bool false]) ?_ 3 _ rfl; (with_reducible repeat (first | refine blk_drewN ?_ _ | refine blk_drew ?_ | refine blk_alloc ?_ _)); refine blk_put (cs := #[.int .u64 0, .int .u64 0, .int .u64 0, .int .u64 0, .bool false]) ?_ 2 _ rfl; (with_reducible repeat (first | refine blk_drewN ?_ _ | refine blk_drew ?_ | refine blk_alloc ?_ _)); refine blk_put (cs := #[.int .u64 0, .int .u64 0, .int .u64 0, .int .u64 0, .bool false]) ?_ 1 _ rfl; (with_reducible repeat (first | refine blk_drewN ?_ _ | refine blk_drew ?_ | refine blk_alloc ?_ _)); refine blk_put (cs := #[.int .u64 0, .int .u64 0, .int .u64 0, .int .u64 0, .bool false]) ?_ 0 _ rfl; (with_reducible repeat (first | refine blk_drewN ?_ _ | refine blk_drew ?_ | refine blk_alloc ?_ _)); exact BK112.out⟩
                        have n4_ : Aside0 (Below w.heap.size w (((((w110.setCell ⟨gb112, 0, none⟩ (.int .u64 0)).setCell ⟨gb112, 1, none⟩ (.int .u64 0)).setCell ⟨gb112, 2, none⟩ (.int .u64 0)).setCell ⟨gb112, 3, none⟩ (.int .u64 x10_27)).setCell ⟨gb112, 4, none⟩ (.bool (!((decide (a0_0 < 0)) == (decide (a1 < 0))))))) := ⟨by repeat (first | (with_reducible first | exact HB.out | apply below_alloc | apply pw_below_drewN | apply below_drew1 | refine below_set ?_ GE107.out | refine below_set ?_ GE108.out | refine below_set ?_ GE109.out | refine below_set ?_ GE112.out) | exact HB.out)⟩
                        (try clear BK107)
                        (try clear BK108)
                        (try clear BK109)
                        (try clear BK112)
                        (try clear HB)
                        generalize (((((w110.setCell ⟨gb112, 0, none⟩ (.int .u64 0)).setCell ⟨gb112, 1, none⟩ (.int .u64 0)).setCell ⟨gb112, 2, none⟩ (.int .u64 0)).setCell ⟨gb112, 3, none⟩ (.int .u64 x10_27)).setCell ⟨gb112, 4, none⟩ (.bool (!((decide (a0_0 < 0)) == (decide (a1 < 0)))))) = w115 at n0_ n1_ n2_ n3_ n4_ ⊢
                        have BK107 := n0_
                        have BK108 := n1_
                        have BK109 := n2_
                        have BK112 := n3_
                        have HB := n4_
                        clear n0_ n1_ n2_ n3_ n4_
                        have n0_ := Aside0.mk (blk_drew BK107.out)
                        have n1_ := Aside0.mk (blk_drew BK108.out)
                        have n2_ := Aside0.mk (blk_drew BK109.out)
                        have n3_ := Aside0.mk (blk_drew BK112.out)
                        have n4_ := Aside0.mk (below_drew1 HB.out)
                        clear BK107
                        clear BK108
                        clear BK109
                        clear BK112
                        clear HB
                        have BK107 := n0_
                        have BK108 := n1_
                        have BK109 := n2_
                        have BK112 := n3_
                        have HB := n4_
                        clear n0_ n1_ n2_ n3_ n4_
                        refine start_ (n := 14) (S := fun w' => w'.cell? ⟨gb109, 0, none⟩ = some (.int .i64 x110000_11) ∧ w'.cell? ⟨gb109, 1, none⟩ = some (.int .u64 x110001_11)) (ds := []) #[false, false, false, false, false, false, false, false, false, false, false, false, false, false] (by kernel_rfl) rfl rfl ⟨(blk_cell BK109.out 0).trans rfl, (blk_cell BK109.out 1).trans rfl⟩ (fun hHeld => ?_); refine with_tabW wide_Div.tab12 wide_Div.bits12 (fun HT_ HW_ => ?_)
                        generalize w115.drew = w116 at BK107 BK108 BK109 BK112 HB hHeld ⊢
                        refine pure_ (i := 0) (N := some 45) (v := ?_) (a' := ?_) #[true, false, false, false, false, false, false, false, false, false, false, false, false, false] rfl rfl (any_of HT_.out (by kernel_rfl)) (fun _ _ _ h => h) (Or.inl ⟨by rfl, ?_⟩) ?_ ?_
                        rotate_left
                        · intro w'
                          go_simp
                          with_reducible rfl
                        rotate_left
                        · simp only [Act.put, List.setIfInBounds_toArray, List.set_cons_zero, List.set_cons_succ, i64_w, i32_w]
                          rfl
                        refine pure_ (i := 3) (N := some 48) (v := ?_) (a' := ?_) #[true, false, false, true, false, false, false, false, false, false, false, false, false, false] rfl rfl (any_of HT_.out (by kernel_rfl)) (fun _ _ _ h => h) (Or.inl ⟨by rfl, ?_⟩) ?_ ?_
                        rotate_left
                        · intro w'
                          go_simp
                          with_reducible rfl
                        rotate_left
                        · simp only [Act.put, List.setIfInBounds_toArray, List.set_cons_zero, List.set_cons_succ, i64_w, i32_w]
                          rfl
                        refine pure_ (i := 5) (N := some 50) (v := ?_) (a' := ?_) #[true, false, false, true, false, true, false, false, false, false, false, false, false, false] rfl rfl (any_of HT_.out (by kernel_rfl)) (fun _ _ _ h => h) (Or.inl ⟨by rfl, ?_⟩) ?_ ?_
                        rotate_left
                        · intro w'
                          go_simp
                          with_reducible rfl
                        rotate_left
                        · simp only [Act.put, List.setIfInBounds_toArray, List.set_cons_zero, List.set_cons_succ, i64_w, i32_w]
                          rfl
                        refine pure_ (i := 8) (N := some 53) (v := ?_) (a' := ?_) #[true, false, false, true, false, true, false, false, true, false, false, false, false, false] rfl rfl (any_of HT_.out (by kernel_rfl)) (fun _ _ _ h => h) (Or.inl ⟨by rfl, ?_⟩) ?_ ?_
                        rotate_left
                        · intro w'
                          go_simp
                          with_reducible rfl
                        rotate_left
                        · simp only [Act.put, List.setIfInBounds_toArray, List.set_cons_zero, List.set_cons_succ, i64_w, i32_w]
                          rfl
                        refine take_ (i := 1) (N := some 46) (v := ?_) (a' := ?_) #[true, true, false, true, false, true, false, false, true, false, false, false, false, false] rfl rfl (take_ofW HT_.out HW_.out (by kernel_rfl)) (fun _ _ _ h => h) (Or.inl ⟨by rfl, ?_⟩) hHeld ?_ ?_
                        rotate_left
                        · rintro w' ⟨s0, s1⟩
                          go_simp
                          with_reducible rfl
                        rotate_left
                        · simp only [Act.put, List.setIfInBounds_toArray, List.set_cons_zero, List.set_cons_succ, i64_w, i32_w]
                          rfl
                        refine pure_ (i := 2) (N := some 47) (v := ?_) (a' := ?_) #[true, true, true, true, false, true, false, false, true, false, false, false, false, false] rfl rfl (any_of HT_.out (by kernel_rfl)) (fun _ _ _ h => h) (Or.inl ⟨by rfl, ?_⟩) ?_ ?_
                        rotate_left
                        · intro w'
                          go_simp
                          with_reducible rfl
                        rotate_left
                        · simp only [Act.put, List.setIfInBounds_toArray, List.set_cons_zero, List.set_cons_succ, i64_w, i32_w]
                          rfl
                        refine pure_ (i := 4) (N := some 49) (v := ?_) (a' := ?_) #[true, true, true, true, true, true, false, false, true, false, false, false, false, false] rfl rfl (any_of HT_.out (by kernel_rfl)) (fun _ _ _ h => h) (Or.inl ⟨by rfl, ?_⟩) ?_ ?_
                        rotate_left
                        · intro w'
                          go_simp
                          with_reducible rfl
                        rotate_left
                        · simp only [Act.put, List.setIfInBounds_toArray, List.set_cons_zero, List.set_cons_succ, i64_w, i32_w]
                          rfl
                        refine pure_ (i := 10) (N := some 55) (v := ?_) (a' := ?_) #[true, true, true, true, true, true, false, false, true, false, true, false, false, false] rfl rfl (any_of HT_.out (by kernel_rfl)) (fun _ _ _ h => h) (Or.inl ⟨by rfl, ?_⟩) ?_ ?_
                        rotate_left
                        · intro w'
                          go_simp
                          with_reducible rfl
                        rotate_left
                        · simp only [Act.put, List.setIfInBounds_toArray, List.set_cons_zero, List.set_cons_succ, i64_w, i32_w]
                          rfl
                        refine take_ (i := 6) (N := some 51) (v := ?_) (a' := ?_) #[true, true, true, true, true, true, true, false, true, false, true, false, false, false] rfl rfl (take_ofW HT_.out HW_.out (by kernel_rfl)) (fun _ _ _ h => h) (Or.inl ⟨by rfl, ?_⟩) hHeld ?_ ?_
                        rotate_left
                        · rintro w' ⟨s0, s1⟩
                          go_simp
                          with_reducible rfl
                        rotate_left
                        · simp only [Act.put, List.setIfInBounds_toArray, List.set_cons_zero, List.set_cons_succ, i64_w, i32_w]
                          rfl
                        refine pure_ (i := 7) (N := some 52) (v := ?_) (a' := ?_) #[true, true, true, true, true, true, true, true, true, false, true, false, false, false] rfl rfl (any_of HT_.out (by kernel_rfl)) (fun _ _ _ h => h) (Or.inl ⟨by rfl, ?_⟩) ?_ ?_
                        rotate_left
                        · intro w'
                          go_simp
                          with_reducible rfl
                        rotate_left
                        · simp only [Act.put, List.setIfInBounds_toArray, List.set_cons_zero, List.set_cons_succ, i64_w, i32_w]
                          rfl
                        refine pure_ (i := 9) (N := some 54) (v := ?_) (a' := ?_) #[true, true, true, true, true, true, true, true, true, true, true, false, false, false] rfl rfl (any_of HT_.out (by kernel_rfl)) (fun _ _ _ h => h) (Or.inl ⟨by rfl, ?_⟩) ?_ ?_
                        rotate_left
                        · intro w'
                          go_simp
                          with_reducible rfl
                        rotate_left
                        · simp only [Act.put, List.setIfInBounds_toArray, List.set_cons_zero, List.set_cons_succ, i64_w, i32_w]
                          rfl
                        refine one_ (i := 11) (N := none) #[true, true, true, true, true, true, true, true, true, true, true, true, false, false] rfl rfl (one_of HT_.out (by kernel_rfl)) (by decide) (fun K hK => ?_)
                        have hs117 : w116.cell? ⟨gb112, 0, none⟩ = some (.int .u64 0) := (blk_cell BK112.out 0).trans rfl
                        have hfs117 := blk_frozen BK112.out 0
                        have hns117_0 := NB107_112.out
                        have hns117_1 := NB108_112.out
                        have hns117_2 := NB109_112.out
                        have hms117_0 := NB112_107.out
                        have hms117_1 := NB112_108.out
                        have hms117_2 := NB112_109.out
                        refine skip_ (w1 := ?_) (by rfl) rfl ?_ ?_
                        rotate_left
                        · go_simp
                          rfl
                        refine hK.out _ _ ⟨((cell_far (p := ⟨gb112, _, none⟩) NB109_112.out _).trans (hHeld.1)), ((cell_far (p := ⟨gb112, _, none⟩) NB109_112.out _).trans (hHeld.2))⟩ (fun hHeld => ?_)
                        clear hK K
                        refine pure_ (i := 12) (N := some 56) (v := ?_) (a' := ?_) #[true, true, true, true, true, true, true, true, true, true, true, true, true, false] rfl rfl (any_of HT_.out (by kernel_rfl)) (fun _ _ _ h => h) (Or.inl ⟨by rfl, ?_⟩) ?_ ?_
                        rotate_left
                        · intro w'
                          go_simp
                          with_reducible rfl
                        rotate_left
                        · simp only [Act.put, List.setIfInBounds_toArray, List.set_cons_zero, List.set_cons_succ, i64_w, i32_w]
                          rfl
                        refine one_ (i := 13) (N := none) #[true, true, true, true, true, true, true, true, true, true, true, true, true, true] rfl rfl (one_of HT_.out (by kernel_rfl)) (by decide) (fun K hK => ?_)
                        have hs118 : w116.cell? ⟨gb112, 2, none⟩ = some (.int .u64 0) := (blk_cell BK112.out 2).trans rfl
                        have hfs118 := blk_frozen BK112.out 2
                        have hns118_0 := NB107_112.out
                        have hns118_1 := NB108_112.out
                        have hns118_2 := NB109_112.out
                        have hms118_0 := NB112_107.out
                        have hms118_1 := NB112_108.out
                        have hms118_2 := NB112_109.out
                        refine skip_ (w1 := ?_) (by rfl) rfl ?_ ?_
                        rotate_left
                        · go_simp
                          rfl
                        refine hK.out _ _ ⟨((cell_far (p := ⟨gb112, _, none⟩) NB109_112.out _).trans (hHeld.1)), ((cell_far (p := ⟨gb112, _, none⟩) NB109_112.out _).trans (hHeld.2))⟩ (fun hHeld => ?_)
                        clear hK K
                        refine done_ (done_of HT_.out (by kernel_rfl)) ?_
                        have n0_ : Aside0 (((w116.setCell ⟨gb112, 0, none⟩ (.int .u64 (IntKind.u64.wrap (Int.tdiv (IntKind.u64.wrap (x110000_11)) x10_27)))).setCell ⟨gb112, 2, none⟩ (.int .u64 (Int.tmod (IntKind.u64.wrap (x110000_11)) x10_27))).heap[gb107]? = some (.cells #[.int .i64 a0_0, .int .u64 a0_1] 24 (0, 0))) := ⟨by (with_reducible repeat (first | refine blk_drewN ?_ _ | refine blk_drew ?_ | refine blk_alloc ?_ _)); refine blk_far ?_ NB107_112.out _; (with_reducible repeat (first | refine blk_drewN ?_ _ | refine blk_drew ?_ | refine blk_alloc ?_ _)); refine blk_far ?_ NB107_112.out _; (with_reducible repeat (first | refine blk_drewN ?_ _ | refine blk_drew ?_ | refine blk_alloc ?_ _)); exact BK107.out⟩
                        have n1_ : Aside0 (((w116.setCell ⟨gb112, 0, none⟩ (.int .u64 (IntKind.u64.wrap (Int.tdiv (IntKind.u64.wrap (x110000_11)) x10_27)))).setCell ⟨gb112, 2, none⟩ (.int .u64 (Int.tmod (IntKind.u64.wrap (x110000_11)) x10_27))).heap[gb108]? = some (.cells #[.func (.func 46) #[] #[], .func (.func 47) #[] #[]] 68 (0, 0))) := ⟨by (with_reducible repeat (first | refine blk_drewN ?_ _ | refine blk_drew ?_ | refine blk_alloc ?_ _)); refine blk_far ?_ NB108_112.out _; (with_reducible repeat (first | refine blk_drewN ?_ _ | refine blk_drew ?_ | refine blk_alloc ?_ _)); refine blk_far ?_ NB108_112.out _; (with_reducible repeat (first | refine blk_drewN ?_ _ | refine blk_drew ?_ | refine blk_alloc ?_ _)); exact BK108.out⟩
                        have n2_ : Aside0 (((w116.setCell ⟨gb112, 0, none⟩ (.int .u64 (IntKind.u64.wrap (Int.tdiv (IntKind.u64.wrap (x110000_11)) x10_27)))).setCell ⟨gb112, 2, none⟩ (.int .u64 (Int.tmod (IntKind.u64.wrap (x110000_11)) x10_27))).heap[gb109]? = some (.cells #[.int .i64 x110000_11, .int .u64 x110001_11] 24 (0, 0))) := ⟨by (with_reducible repeat (first | refine blk_drewN ?_ _ | refine blk_drew ?_ | refine blk_alloc ?_ _)); refine blk_far ?_ NB109_112.out _; (with_reducible repeat (first | refine blk_drewN ?_ _ | refine blk_drew ?_ | refine blk_alloc ?_ _)); refine blk_far ?_ NB109_112.out _; (with_reducible repeat (first | refine blk_drewN ?_ _ | refine blk_drew ?_ | refine blk_alloc ?_ _)); exact BK109.out⟩
                        have n3_ : Aside0 (((w116.setCell ⟨gb112, 0, none⟩ (.int .u64 (IntKind.u64.wrap (Int.tdiv (IntKind.u64.wrap (x110000_11)) x10_27)))).setCell ⟨gb112, 2, none⟩ (.int .u64 (Int.tmod (IntKind.u64.wrap (x110000_11)) x10_27))).heap[gb112]? = some (.cells #[.int .u64 (IntKind.u64.wrap (Int.tdiv (IntKind.u64.wrap (x110000_11)) x10_27)), .int .u64 0, .int .u64 (Int.tmod (IntKind.u64.wrap (x110000_11)) x10_27), .int .u64 x10_27, .bool (!((decide (a0_0 < 0)) == (decide (a1 < 0))))] 67 (0, 0))) := ⟨by (with_reducible repeat (first | refine blk_drewN ?_ _ | refine blk_drew ?_ | refine blk_alloc ?_ _)); refine blk_put (cs := #[.int .u64 (IntKind.u64.wrap (Int.tdiv (IntKind.u64.wrap (x110000_11)) x10_27)), .int .u64 0, .int .u64 0, .int .u64 x10_27, .bool (!((decide (a0_0 < 0)) == (decide (a1 < 0))))]) ?_ 2 _ rfl; (with_reducible repeat (first | refine blk_drewN ?_ _ | refine blk_drew ?_ | refine blk_alloc ?_ _)); refine blk_put (cs := #[.int .u64 0, .int .u64 0, .int .u64 0, .int .u64 x10_27, .bool (!((decide (a0_0 < 0)) == (decide (a1 < 0))))]) ?_ 0 _ rfl; (with_reducible repeat (first | refine blk_drewN ?_ _ | refine blk_drew ?_ | refine blk_alloc ?_ _)); exact BK112.out⟩
                        have n4_ : Aside0 (Below w.heap.size w ((w116.setCell ⟨gb112, 0, none⟩ (.int .u64 (IntKind.u64.wrap (Int.tdiv (IntKind.u64.wrap (x110000_11)) x10_27)))).setCell ⟨gb112, 2, none⟩ (.int .u64 (Int.tmod (IntKind.u64.wrap (x110000_11)) x10_27)))) := ⟨by repeat (first | (with_reducible first | exact HB.out | apply below_alloc | apply pw_below_drewN | apply below_drew1 | refine below_set ?_ GE107.out | refine below_set ?_ GE108.out | refine below_set ?_ GE109.out | refine below_set ?_ GE112.out) | exact HB.out)⟩
                        (try clear BK107)
                        (try clear BK108)
                        (try clear BK109)
                        (try clear BK112)
                        (try clear HB)
                        generalize ((w116.setCell ⟨gb112, 0, none⟩ (.int .u64 (IntKind.u64.wrap (Int.tdiv (IntKind.u64.wrap (x110000_11)) x10_27)))).setCell ⟨gb112, 2, none⟩ (.int .u64 (Int.tmod (IntKind.u64.wrap (x110000_11)) x10_27))) = w119 at n0_ n1_ n2_ n3_ n4_ ⊢
                        have BK107 := n0_
                        have BK108 := n1_
                        have BK109 := n2_
                        have BK112 := n3_
                        have HB := n4_
                        clear n0_ n1_ n2_ n3_ n4_
                        have hcz120_0 : w119.cell? ⟨gb112, 0, none⟩ = some (.int .u64 (IntKind.u64.wrap (Int.tdiv (IntKind.u64.wrap (x110000_11)) x10_27))) := (blk_cell BK112.out 0).trans rfl
                        have hcz120_1 : w119.cell? ⟨gb112, 1, none⟩ = some (.int .u64 0) := (blk_cell BK112.out 1).trans rfl
                        have hcz120_2 : w119.cell? ⟨gb112, 2, none⟩ = some (.int .u64 (Int.tmod (IntKind.u64.wrap (x110000_11)) x10_27)) := (blk_cell BK112.out 2).trans rfl
                        have hcz120_3 : w119.cell? ⟨gb112, 3, none⟩ = some (.int .u64 x10_27) := (blk_cell BK112.out 3).trans rfl
                        have hcz120_4 : w119.cell? ⟨gb112, 4, none⟩ = some (.bool (!((decide (a0_0 < 0)) == (decide (a1 < 0))))) := (blk_cell BK112.out 4).trans rfl
                        have hfz120_0 := blk_frozen BK112.out 0
                        have hfz120_1 := blk_frozen BK112.out 1
                        have hfz120_2 := blk_frozen BK112.out 2
                        have hfz120_3 := blk_frozen BK112.out 3
                        have hfz120_4 := blk_frozen BK112.out 4
                        have hnb121 := NB109_108.out
                        have hnc121 := NB108_109.out
                        have hcz122_0 : w119.cell? ⟨gb109, 0, none⟩ = some (.int .i64 x110000_11) := (blk_cell BK109.out 0).trans rfl
                        have hcz122_1 : w119.cell? ⟨gb109, 1, none⟩ = some (.int .u64 x110001_11) := (blk_cell BK109.out 1).trans rfl
                        have hfz122_0 := blk_frozen BK109.out 0
                        have hfz122_1 := blk_frozen BK109.out 1
                        try go_wp2_with (first | ((with_reducible refine gate_callee (f := 49) rfl ?_); refine goesL_ (some 63) rfl rfl Try.func49 (by kernel_rfl) rfl #[.int .u64 (Int.tmod (IntKind.u64.wrap (x110000_11)) x10_27), .int .u64 x110001_11, .int .u64 x10_27] rfl (by (try simp only [List.map_toArray, List.map_cons, List.map_nil]); first | done | rfl | (simp only [List.length_drop, List.length_take]; rfl)) ?_; (with_reducible refine (math_bits_Div64.calls kj27 (Int.tmod (IntKind.u64.wrap (x110000_11)) x10_27) x110001_11 x10_27 t113 t114 _ A31.out).mono ?_); rintro e w' ⟨rfl, ⟨nd, rfl⟩⟩; refine ⟨_, rfl, ?_⟩; (try (rw [drewN_self w119]; generalize hq_ : World.drewN w119 _ = w119; have n0_ : Aside0 (w119.heap[gb107]? = some (.cells #[.int .i64 a0_0, .int .u64 a0_1] 24 (0, 0))) := ⟨by rw [← hq_]; exact (by (with_reducible repeat (first | refine blk_drewN ?_ _ | refine blk_drew ?_ | refine blk_alloc ?_ _)); exact BK107.out)⟩; have n1_ : Aside0 (w119.heap[gb108]? = some (.cells #[.func (.func 46) #[] #[], .func (.func 47) #[] #[]] 68 (0, 0))) := ⟨by rw [← hq_]; exact (by (with_reducible repeat (first | refine blk_drewN ?_ _ | refine blk_drew ?_ | refine blk_alloc ?_ _)); exact BK108.out)⟩; have n2_ : Aside0 (w119.heap[gb109]? = some (.cells #[.int .i64 x110000_11, .int .u64 x110001_11] 24 (0, 0))) := ⟨by rw [← hq_]; exact (by (with_reducible repeat (first | refine blk_drewN ?_ _ | refine blk_drew ?_ | refine blk_alloc ?_ _)); exact BK109.out)⟩; have n3_ : Aside0 (w119.heap[gb112]? = some (.cells #[.int .u64 (IntKind.u64.wrap (Int.tdiv (IntKind.u64.wrap (x110000_11)) x10_27)), .int .u64 0, .int .u64 (Int.tmod (IntKind.u64.wrap (x110000_11)) x10_27), .int .u64 x10_27, .bool (!((decide (a0_0 < 0)) == (decide (a1 < 0))))] 67 (0, 0))) := ⟨by rw [← hq_]; exact (by (with_reducible repeat (first | refine blk_drewN ?_ _ | refine blk_drew ?_ | refine blk_alloc ?_ _)); exact BK112.out)⟩; have n4_ : Aside0 (Below w.heap.size w w119) := ⟨by rw [← hq_]; exact (by repeat (first | (with_reducible first | exact HB.out | apply below_alloc | apply pw_below_drewN | apply below_drew1 | refine below_set ?_ GE107.out | refine below_set ?_ GE108.out | refine below_set ?_ GE109.out | refine below_set ?_ GE112.out) | exact HB.out))⟩; clear BK107 BK108 BK109 BK112 HB hq_; have BK107 := n0_; have BK108 := n1_; have BK109 := n2_; have BK112 := n3_; have HB := n4_; clear n0_ n1_ n2_ n3_ n4_)); (try (have hcz123_0 : w119.cell? ⟨gb107, 0, none⟩ = some (.int .i64 a0_0) := (blk_cell BK107.out 0).trans rfl; have hfz123_0 := blk_frozen BK107.out 0; have hcz123_1 : w119.cell? ⟨gb107, 1, none⟩ = some (.int .u64 a0_1) := (blk_cell BK107.out 1).trans rfl; have hfz123_1 := blk_frozen BK107.out 1; have hcz124_0 : w119.cell? ⟨gb108, 0, none⟩ = some (.func (.func 46) #[] #[]) := (blk_cell BK108.out 0).trans rfl; have hfz124_0 := blk_frozen BK108.out 0; have hcz124_1 : w119.cell? ⟨gb108, 1, none⟩ = some (.func (.func 47) #[] #[]) := (blk_cell BK108.out 1).trans rfl; have hfz124_1 := blk_frozen BK108.out 1; have hcz125_0 : w119.cell? ⟨gb109, 0, none⟩ = some (.int .i64 x110000_11) := (blk_cell BK109.out 0).trans rfl; have hfz125_0 := blk_frozen BK109.out 0; have hcz125_1 : w119.cell? ⟨gb109, 1, none⟩ = some (.int .u64 x110001_11) := (blk_cell BK109.out 1).trans rfl; have hfz125_1 := blk_frozen BK109.out 1; have hcz126_0 : w119.cell? ⟨gb112, 0, none⟩ = some (.int .u64 (IntKind.u64.wrap (Int.tdiv (IntKind.u64.wrap (x110000_11)) x10_27))) := (blk_cell BK112.out 0).trans rfl; have hfz126_0 := blk_frozen BK112.out 0; have hcz126_1 : w119.cell? ⟨gb112, 1, none⟩ = some (.int .u64 0) := (blk_cell BK112.out 1).trans rfl; have hfz126_1 := blk_frozen BK112.out 1; have hcz126_2 : w119.cell? ⟨gb112, 2, none⟩ = some (.int .u64 (Int.tmod (IntKind.u64.wrap (x110000_11)) x10_27)) := (blk_cell BK112.out 2).trans rfl; have hfz126_2 := blk_frozen BK112.out 2; have hcz126_3 : w119.cell? ⟨gb112, 3, none⟩ = some (.int .u64 x10_27) := (blk_cell BK112.out 3).trans rfl; have hfz126_3 := blk_frozen BK112.out 3; have hcz126_4 : w119.cell? ⟨gb112, 4, none⟩ = some (.bool (!((decide (a0_0 < 0)) == (decide (a1 < 0))))) := (blk_cell BK112.out 4).trans rfl; have hfz126_4 := blk_frozen BK112.out 4))))
                        have n0_ : Aside0 (((w119.setCell ⟨gb112, 1, none⟩ (.int .u64 t113)).setCell ⟨gb112, 2, none⟩ (.int .u64 t114)).heap[gb107]? = some (.cells #[.int .i64 a0_0, .int .u64 a0_1] 24 (0, 0))) := ⟨by (with_reducible repeat (first | refine blk_drewN ?_ _ | refine blk_drew ?_ | refine blk_alloc ?_ _)); refine blk_far ?_ NB107_112.out _; (with_reducible repeat (first | refine blk_drewN ?_ _ | refine blk_drew ?_ | refine blk_alloc ?_ _)); refine blk_far ?_ NB107_112.out _; (with_reducible repeat (first | refine blk_drewN ?_ _ | refine blk_drew ?_ | refine blk_alloc ?_ _)); exact BK107.out⟩
                        have n1_ : Aside0 (((w119.setCell ⟨gb112, 1, none⟩ (.int .u64 t113)).setCell ⟨gb112, 2, none⟩ (.int .u64 t114)).heap[gb108]? = some (.cells #[.func (.func 46) #[] #[], .func (.func 47) #[] #[]] 68 (0, 0))) := ⟨by (with_reducible repeat (first | refine blk_drewN ?_ _ | refine blk_drew ?_ | refine blk_alloc ?_ _)); refine blk_far ?_ NB108_112.out _; (with_reducible repeat (first | refine blk_drewN ?_ _ | refine blk_drew ?_ | refine blk_alloc ?_ _)); refine blk_far ?_ NB108_112.out _; (with_reducible repeat (first | refine blk_drewN ?_ _ | refine blk_drew ?_ | refine blk_alloc ?_ _)); exact BK108.out⟩
                        have n2_ : Aside0 (((w119.setCell ⟨gb112, 1, none⟩ (.int .u64 t113)).setCell ⟨gb112, 2, none⟩ (.int .u64 t114)).heap[gb109]? = some (.cells #[.int .i64 x110000_11, .int .u64 x110001_11] 24 (0, 0))) := ⟨by (with_reducible repeat (first | refine blk_drewN ?_ _ | refine blk_drew ?_ | refine blk_alloc ?_ _)); refine blk_far ?_ NB109_112.out _; (with_reducible repeat (first | refine blk_drewN ?_ _ | refine blk_drew ?_ | refine blk_alloc ?_ _)); refine blk_far ?_ NB109_112.out _; (with_reducible repeat (first | refine blk_drewN ?_ _ | refine blk_drew ?_ | refine blk_alloc ?_ _)); exact BK109.out⟩
                        have n3_ : Aside0 (((w119.setCell ⟨gb112, 1, none⟩ (.int .u64 t113)).setCell ⟨gb112, 2, none⟩ (.int .u64 t114)).heap[gb112]? = some (.cells #[.int .u64 (IntKind.u64.wrap (Int.tdiv (IntKind.u64.wrap (x110000_11)) x10_27)), .int .u64 t113, .int .u64 t114, .int .u64 x10_27, .bool (!((decide (a0_0 < 0)) == (decide (a1 < 0))))] 67 (0, 0))) := ⟨by (with_reducible repeat (first | refine blk_drewN ?_ _ | refine blk_drew ?_ | refine blk_alloc ?_ _)); refine blk_put (cs := #[.int .u64 (IntKind.u64.wrap (Int.tdiv (IntKind.u64.wrap (x110000_11)) x10_27)), .int .u64 t113, .int .u64 (Int.tmod (IntKind.u64.wrap (x110000_11)) x10_27), .int .u64 x10_27, .bool (!((decide (a0_0 < 0)) == (decide (a1 < 0))))]) ?_ 2 _ rfl; (with_reducible repeat (first | refine blk_drewN ?_ _ | refine blk_drew ?_ | refine blk_alloc ?_ _)); refine blk_put (cs := #[.int .u64 (IntKind.u64.wrap (Int.tdiv (IntKind.u64.wrap (x110000_11)) x10_27)), .int .u64 0, .int .u64 (Int.tmod (IntKind.u64.wrap (x110000_11)) x10_27), .int .u64 x10_27, .bool (!((decide (a0_0 < 0)) == (decide (a1 < 0))))]) ?_ 1 _ rfl; (with_reducible repeat (first | refine blk_drewN ?_ _ | refine blk_drew ?_ | refine blk_alloc ?_ _)); exact BK112.out⟩
                        have n4_ : Aside0 (Below w.heap.size w ((w119.setCell ⟨gb112, 1, none⟩ (.int .u64 t113)).setCell ⟨gb112, 2, none⟩ (.int .u64 t114))) := ⟨by repeat (first | (with_reducible first | exact HB.out | apply below_alloc | apply pw_below_drewN | apply below_drew1 | refine below_set ?_ GE107.out | refine below_set ?_ GE108.out | refine below_set ?_ GE109.out | refine below_set ?_ GE112.out) | exact HB.out)⟩
                        (try clear BK107)
                        (try clear BK108)
                        (try clear BK109)
                        (try clear BK112)
                        (try clear HB)
                        generalize ((w119.setCell ⟨gb112, 1, none⟩ (.int .u64 t113)).setCell ⟨gb112, 2, none⟩ (.int .u64 t114)) = w127 at n0_ n1_ n2_ n3_ n4_ ⊢
                        have BK107 := n0_
                        have BK108 := n1_
                        have BK109 := n2_
                        have BK112 := n3_
                        have HB := n4_
                        clear n0_ n1_ n2_ n3_ n4_
                        have n0_ := Aside0.mk (blk_drew BK107.out)
                        have n1_ := Aside0.mk (blk_drew BK108.out)
                        have n2_ := Aside0.mk (blk_drew BK109.out)
                        have n3_ := Aside0.mk (blk_drew BK112.out)
                        have n4_ := Aside0.mk (below_drew1 HB.out)
                        clear BK107
                        clear BK108
                        clear BK109
                        clear BK112
                        clear HB
                        have BK107 := n0_
                        have BK108 := n1_
                        have BK109 := n2_
                        have BK112 := n3_
                        have HB := n4_
                        clear n0_ n1_ n2_ n3_ n4_
                        have hx129 : ∀ W, (Instr.indexAt 68 (.pointer (some ⟨gb108, 0, none⟩)) (.int .i64 a2)).run Try.prog W = .ok (.pointer (some ⟨gb108, 1, none⟩)) W := fun W => by rw [show a2 = 1 from beq_iff_eq.mp (by first | (with_reducible assumption) | assumption)]; first | kernel_rfl | rfl
                        refine start_ (n := 5) (S := fun w' => w'.cell? ⟨gb108, 0, none⟩ = some (.func (.func 46) #[] #[]) ∧ w'.cell? ⟨gb108, 1, none⟩ = some (.func (.func 47) #[] #[]) ∧ w'.cell? ⟨gb112, 0, none⟩ = some (.int .u64 (IntKind.u64.wrap (Int.tdiv (IntKind.u64.wrap (x110000_11)) x10_27))) ∧ w'.cell? ⟨gb112, 1, none⟩ = some (.int .u64 t113) ∧ w'.cell? ⟨gb112, 2, none⟩ = some (.int .u64 t114) ∧ w'.cell? ⟨gb112, 3, none⟩ = some (.int .u64 x10_27) ∧ w'.cell? ⟨gb112, 4, none⟩ = some (.bool (!((decide (a0_0 < 0)) == (decide (a1 < 0)))))) (ds := []) #[false, false, false, false, false] (by kernel_rfl) rfl rfl ⟨(blk_cell BK108.out 0).trans rfl, (blk_cell BK108.out 1).trans rfl, (blk_cell BK112.out 0).trans rfl, (blk_cell BK112.out 1).trans rfl, (blk_cell BK112.out 2).trans rfl, (blk_cell BK112.out 3).trans rfl, (blk_cell BK112.out 4).trans rfl⟩ (fun hHeld => ?_)
                        generalize w127.drew = w128 at BK107 BK108 BK109 BK112 HB hHeld ⊢
                        refine pure_ (i := 0) (N := some 68) (v := ?_) (a' := ?_) #[true, false, false, false, false] rfl rfl (by kernel_rfl) (fun _ _ _ h => h) (Or.inl ⟨by rfl, ?_⟩) ?_ ?_
                        rotate_left
                        · intro w'
                          go_simp
                          with_reducible rfl
                        rotate_left
                        · simp only [Act.put, List.setIfInBounds_toArray, List.set_cons_zero, List.set_cons_succ, i64_w, i32_w]
                          rfl
                        refine pure_ (i := 1) (N := some 69) (v := ?_) (a' := ?_) #[true, true, false, false, false] rfl rfl (by kernel_rfl) (fun _ _ _ h => h) (Or.inl ⟨by rfl, ?_⟩) ?_ ?_
                        rotate_left
                        · intro w'
                          go_simp
                          with_reducible rfl
                        rotate_left
                        · simp only [Act.put, List.setIfInBounds_toArray, List.set_cons_zero, List.set_cons_succ, i64_w, i32_w]
                          rfl
                        refine take_ (i := 2) (N := some 70) (v := ?_) (a' := ?_) #[true, true, true, false, false] rfl rfl (by kernel_rfl) (fun _ _ _ h => h) (Or.inl ⟨by rfl, ?_⟩) hHeld ?_ ?_
                        rotate_left
                        · rintro w' ⟨s0, s1, s2, s3, s4, s5, s6⟩
                          go_simp
                          with_reducible rfl
                        rotate_left
                        · simp only [Act.put, List.setIfInBounds_toArray, List.set_cons_zero, List.set_cons_succ, i64_w, i32_w]
                          rfl
                        refine take_ (i := 3) (N := some 71) (v := ?_) (a' := ?_) #[true, true, true, true, false] rfl rfl (by kernel_rfl) (fun _ _ _ h => h) (Or.inl ⟨by rfl, ?_⟩) hHeld ?_ ?_
                        rotate_left
                        · rintro w' ⟨s0, s1, s2, s3, s4, s5, s6⟩
                          go_simp
                          with_reducible rfl
                        rotate_left
                        · simp only [Act.put, List.setIfInBounds_toArray, List.set_cons_zero, List.set_cons_succ, i64_w, i32_w]
                          rfl
                        refine one_ (i := 4) (N := some 72) #[true, true, true, true, true] rfl rfl (by kernel_rfl) (by decide) (fun K hK => ?_)
                        refine Go.Proofs.Ytohbdjfabghagaa.XWalk.goesV_ Try.func47 (by kernel_rfl) rfl #[.agg #[.int .u64 (IntKind.u64.wrap (Int.tdiv (IntKind.u64.wrap (x110000_11)) x10_27)), .int .u64 t113, .int .u64 t114, .int .u64 x10_27, .bool (!((decide (a0_0 < 0)) == (decide (a1 < 0))))]] (by rfl) rfl rfl rfl (by (try simp only [List.map_toArray, List.map_cons, List.map_nil]); first | done | rfl | (simp only [List.length_drop, List.length_take]; rfl)) ?_
                        with_reducible refine (wide_quotient_near.calls (IntKind.u64.wrap (Int.tdiv (IntKind.u64.wrap (x110000_11)) x10_27)) t113 t114 x10_27 (!((decide (a0_0 < 0)) == (decide (a1 < 0)))) t116 _ A105.out).mono ?_
                        rintro e w130 ⟨rfl, hb⟩
                        refine ⟨_, rfl, ?_⟩
                        have n0_ := Aside0.mk (blk_below (g := gb107) (o := .cells #[.int .i64 a0_0, .int .u64 a0_1] 24 (0, 0)) (by (with_reducible repeat (first | refine blk_drewN ?_ _ | refine blk_drew ?_ | refine blk_alloc ?_ _)); exact BK107.out) hb)
                        have n1_ := Aside0.mk (blk_below (g := gb108) (o := .cells #[.func (.func 46) #[] #[], .func (.func 47) #[] #[]] 68 (0, 0)) (by (with_reducible repeat (first | refine blk_drewN ?_ _ | refine blk_drew ?_ | refine blk_alloc ?_ _)); exact BK108.out) hb)
                        have n2_ := Aside0.mk (blk_below (g := gb109) (o := .cells #[.int .i64 x110000_11, .int .u64 x110001_11] 24 (0, 0)) (by (with_reducible repeat (first | refine blk_drewN ?_ _ | refine blk_drew ?_ | refine blk_alloc ?_ _)); exact BK109.out) hb)
                        have n3_ := Aside0.mk (blk_below (g := gb112) (o := .cells #[.int .u64 (IntKind.u64.wrap (Int.tdiv (IntKind.u64.wrap (x110000_11)) x10_27)), .int .u64 t113, .int .u64 t114, .int .u64 x10_27, .bool (!((decide (a0_0 < 0)) == (decide (a1 < 0))))] 67 (0, 0)) (by (with_reducible repeat (first | refine blk_drewN ?_ _ | refine blk_drew ?_ | refine blk_alloc ?_ _)); exact BK112.out) hb)
                        have n4_ := Aside0.mk (below_step (by repeat (first | (with_reducible first | exact HB.out | apply below_alloc | apply pw_below_drewN | apply below_drew1 | refine below_set ?_ GE107.out | refine below_set ?_ GE108.out | refine below_set ?_ GE109.out | refine below_set ?_ GE112.out) | exact HB.out)) hb)
                        clear BK107
                        clear BK108
                        clear BK109
                        clear BK112
                        clear HB
                        have BK107 := n0_
                        have BK108 := n1_
                        have BK109 := n2_
                        have BK112 := n3_
                        have HB := n4_
                        clear n0_ n1_ n2_ n3_ n4_
                        (try clear hb)
                        (try clear hb2)
                        (try clear hk)
                        (try clear hi)
                        refine hK.out _ _ ⟨(blk_cell BK108.out 0).trans rfl, (blk_cell BK108.out 1).trans rfl, (blk_cell BK112.out 0).trans rfl, (blk_cell BK112.out 1).trans rfl, (blk_cell BK112.out 2).trans rfl, (blk_cell BK112.out 3).trans rfl, (blk_cell BK112.out 4).trans rfl⟩ (fun hHeld => ?_)
                        clear hK K
                        refine norm_ (a' := ?_) ?_ ?_
                        rotate_left
                        · show Act.put _ (some 72) _ = _
                          simp only [Act.put, List.setIfInBounds_toArray, List.set_cons_zero, List.set_cons_succ, i64_w, i32_w]
                          rfl
                        refine done_ (by kernel_rfl) ?_
                        go_upto_if 72 with (fail)
                        go_cut [] (fun wc => ∃ (kq : Nat) (x113000_105 : Int) (x113001_105 : Int), Aside0 (wide_Div.j5 kq x113000_105 x113001_105 t114 x10_27 (!((decide (a0_0 < 0)) == (decide (a1 < 0)))) = some (r1, r2)) ∧ Aside0 (kq ≤ kj27) ∧ Aside0 (wc.heap[gb107]? = some (.cells #[.int .i64 a0_0, .int .u64 a0_1] 24 (0, 0))) ∧ Aside0 (wc.heap[gb108]? = some (.cells #[.func (.func 46) #[] #[], .func (.func 47) #[] #[]] 68 (0, 0))) ∧ Aside0 (wc.heap[gb109]? = some (.cells #[.int .i64 x110000_11, .int .u64 x110001_11] 24 (0, 0))) ∧ Aside0 (wc.heap[gb112]? = some (.cells #[.int .u64 x113000_105, .int .u64 x113001_105, .int .u64 t114, .int .u64 x10_27, .bool (!((decide (a0_0 < 0)) == (decide (a1 < 0))))] 67 (0, 0))) ∧ Aside0 (Below w.heap.size w wc))
                        case first =>
                          have H := HC106.out
                          clear HC106
                          by_cases c131 : t116 = true
                          · subst c131
                            have H1 : (if 0 ≤ t113 then (wide_Div.j5 kj27 (IntKind.u64.wrap ((IntKind.u64.wrap (Int.tdiv (IntKind.u64.wrap (x110000_11)) x10_27)) + (Go.Proofs.Ytohbdjfabghagaa.XWalk.c64 t113 1 0))) (Go.Proofs.Ytohbdjfabghagaa.XWalk.s64 t113 1 0) t114 x10_27 (!((decide (a0_0 < 0)) == (decide (a1 < 0))))) else (none)) = some (r1, r2) := by rw [if_pos rfl] at H; exact H
                            clear H
                            have H := H1
                            clear H1
                            by_cases c132 : 0 ≤ t113
                            · rw [if_pos c132] at H
                              have c132b0 := eq_true c132
                              have c132b1 : decide (0 ≤ t113) = true := decide_eq_true c132
                              clear c132
                              have H' := Aside0.mk H
                              clear H
                              have hnb133 := NB112_107.out
                              have hnc133 := NB107_112.out
                              have hnb134 := NB112_108.out
                              have hnc134 := NB108_112.out
                              have hnb135 := NB112_109.out
                              have hnc135 := NB109_112.out
                              have hcz136_0 : w130.cell? ⟨gb112, 0, none⟩ = some (.int .u64 (IntKind.u64.wrap (Int.tdiv (IntKind.u64.wrap (x110000_11)) x10_27))) := (blk_cell BK112.out 0).trans rfl
                              have hcz136_1 : w130.cell? ⟨gb112, 1, none⟩ = some (.int .u64 t113) := (blk_cell BK112.out 1).trans rfl
                              have hcz136_2 : w130.cell? ⟨gb112, 2, none⟩ = some (.int .u64 t114) := (blk_cell BK112.out 2).trans rfl
                              have hcz136_3 : w130.cell? ⟨gb112, 3, none⟩ = some (.int .u64 x10_27) := (blk_cell BK112.out 3).trans rfl
                              have hcz136_4 : w130.cell? ⟨gb112, 4, none⟩ = some (.bool (!((decide (a0_0 < 0)) == (decide (a1 < 0))))) := (blk_cell BK112.out 4).trans rfl
                              have hfz136_0 := blk_frozen BK112.out 0
                              have hfz136_1 := blk_frozen BK112.out 1
                              have hfz136_2 := blk_frozen BK112.out 2
                              have hfz136_3 := blk_frozen BK112.out 3
                              have hfz136_4 := blk_frozen BK112.out 4
                              have hx137 := fun W => math_bits_Add64.run t113 1 0 W (by first | omega | exact of_decide_eq_true (by first | (with_reducible assumption) | assumption) | exact of_eq_true (by assumption)) (by first | omega | exact of_decide_eq_true (by first | (with_reducible assumption) | assumption) | exact of_eq_true (by assumption)) (by first | omega | exact of_decide_eq_true (by first | (with_reducible assumption) | assumption) | exact of_eq_true (by assumption)) (by first | omega | exact of_decide_eq_true (by first | (with_reducible assumption) | assumption) | exact of_eq_true (by assumption))
                              go_wp2
                              go_meet
                              case rel => exact ⟨_, (IntKind.u64.wrap ((IntKind.u64.wrap (Int.tdiv (IntKind.u64.wrap (x110000_11)) x10_27)) + (Go.Proofs.Ytohbdjfabghagaa.XWalk.c64 t113 1 0))), (Go.Proofs.Ytohbdjfabghagaa.XWalk.s64 t113 1 0), H', ⟨by have := HJ3.out; have := HJ11.out; have := HJ27.out; first | omega | exact Nat.le_refl _⟩, ⟨by (with_reducible repeat (first | refine blk_drewN ?_ _ | refine blk_drew ?_ | refine blk_alloc ?_ _)); refine blk_far ?_ NB107_112.out _; (with_reducible repeat (first | refine blk_drewN ?_ _ | refine blk_drew ?_ | refine blk_alloc ?_ _)); refine blk_far ?_ NB107_112.out _; (with_reducible repeat (first | refine blk_drewN ?_ _ | refine blk_drew ?_ | refine blk_alloc ?_ _)); exact BK107.out⟩, ⟨by (with_reducible repeat (first | refine blk_drewN ?_ _ | refine blk_drew ?_ | refine blk_alloc ?_ _)); refine blk_far ?_ NB108_112.out _; (with_reducible repeat (first | refine blk_drewN ?_ _ | refine blk_drew ?_ | refine blk_alloc ?_ _)); refine blk_far ?_ NB108_112.out _; (with_reducible repeat (first | refine blk_drewN ?_ _ | refine blk_drew ?_ | refine blk_alloc ?_ _)); exact BK108.out⟩, ⟨by (with_reducible repeat (first | refine blk_drewN ?_ _ | refine blk_drew ?_ | refine blk_alloc ?_ _)); refine blk_far ?_ NB109_112.out _; (with_reducible repeat (first | refine blk_drewN ?_ _ | refine blk_drew ?_ | refine blk_alloc ?_ _)); refine blk_far ?_ NB109_112.out _; (with_reducible repeat (first | refine blk_drewN ?_ _ | refine blk_drew ?_ | refine blk_alloc ?_ _)); exact BK109.out⟩, ⟨by (with_reducible repeat (first | refine blk_drewN ?_ _ | refine blk_drew ?_ | refine blk_alloc ?_ _)); refine blk_put (cs := #[.int .u64 (IntKind.u64.wrap (Int.tdiv (IntKind.u64.wrap (x110000_11)) x10_27)), .int .u64 (Go.Proofs.Ytohbdjfabghagaa.XWalk.s64 t113 1 0), .int .u64 t114, .int .u64 x10_27, .bool (!((decide (a0_0 < 0)) == (decide (a1 < 0))))]) ?_ 0 _ rfl; (with_reducible repeat (first | refine blk_drewN ?_ _ | refine blk_drew ?_ | refine blk_alloc ?_ _)); refine blk_put (cs := #[.int .u64 (IntKind.u64.wrap (Int.tdiv (IntKind.u64.wrap (x110000_11)) x10_27)), .int .u64 t113, .int .u64 t114, .int .u64 x10_27, .bool (!((decide (a0_0 < 0)) == (decide (a1 < 0))))]) ?_ 1 _ rfl; (with_reducible repeat (first | refine blk_drewN ?_ _ | refine blk_drew ?_ | refine blk_alloc ?_ _)); exact BK112.out⟩, ⟨by repeat (first | (with_reducible first | exact HB.out | apply below_alloc | apply pw_below_drewN | apply below_drew1 | refine below_set ?_ GE107.out | refine below_set ?_ GE108.out | refine below_set ?_ GE109.out | refine below_set ?_ GE112.out) | exact HB.out)⟩⟩
                            · rw [if_neg c132] at H
                              exact absurd H (by simp)
                          · replace c131 := Bool.eq_false_iff.mpr c131
                            subst c131
                            have H1 : (wide_Div.j5 kj27 (IntKind.u64.wrap (Int.tdiv (IntKind.u64.wrap (x110000_11)) x10_27)) t113 t114 x10_27 (!((decide (a0_0 < 0)) == (decide (a1 < 0))))) = some (r1, r2) := by rw [if_neg (show ¬ (false = true) by decide)] at H; exact H
                            clear H
                            have H := H1
                            clear H1
                            have H' := Aside0.mk H
                            clear H
                            go_wp2
                            go_meet
                            case rel => exact ⟨_, (IntKind.u64.wrap (Int.tdiv (IntKind.u64.wrap (x110000_11)) x10_27)), (t113), H', ⟨by have := HJ3.out; have := HJ11.out; have := HJ27.out; first | omega | exact Nat.le_refl _⟩, ⟨by (with_reducible repeat (first | refine blk_drewN ?_ _ | refine blk_drew ?_ | refine blk_alloc ?_ _)); exact BK107.out⟩, ⟨by (with_reducible repeat (first | refine blk_drewN ?_ _ | refine blk_drew ?_ | refine blk_alloc ?_ _)); exact BK108.out⟩, ⟨by (with_reducible repeat (first | refine blk_drewN ?_ _ | refine blk_drew ?_ | refine blk_alloc ?_ _)); exact BK109.out⟩, ⟨by (with_reducible repeat (first | refine blk_drewN ?_ _ | refine blk_drew ?_ | refine blk_alloc ?_ _)); exact BK112.out⟩, ⟨by repeat (first | (with_reducible first | exact HB.out | apply below_alloc | apply pw_below_drewN | apply below_drew1 | refine below_set ?_ GE107.out | refine below_set ?_ GE108.out | refine below_set ?_ GE109.out | refine below_set ?_ GE112.out) | exact HB.out)⟩⟩
                        case rest =>
                          clear HC106
                          try clear c1
                          try clear hx1
                          try clear p2
                          try clear c3
                          try clear c4
                          try clear c6
                          try clear p6
                          try clear c8
                          try clear c9
                          try clear c10
                          try clear c11
                          try clear c12
                          try clear hx12
                          try clear c13
                          try clear hx13
                          try clear c32
                          try clear c32b0
                          try clear c32b1
                          try clear c47
                          try clear c49
                          try clear c64
                          try clear p64
                          try clear c85
                          try clear c86
                          try clear c87
                          try clear c88
                          try clear c90
                          try clear c90b0
                          try clear c91
                          try clear c92
                          try clear c93
                          try clear c95
                          try clear c95b0
                          try clear c96
                          try clear c97
                          try clear c98
                          try clear c100
                          try clear c101
                          try clear c102
                          try clear c104
                          try clear c104b0
                          try clear c104b1
                          try clear c107
                          try clear c108
                          try clear c111
                          try clear c112
                          try clear c113
                          try clear c121
                          try clear hx129
                          try clear c131
                          try clear c132
                          try clear c132b0
                          try clear c132b1
                          try clear c133
                          try clear c134
                          try clear c135
                          try clear hx137
                          try clear hcz103_0
                          try clear hcz103_1
                          try clear hcz103_2
                          try clear hcz103_3
                          try clear hcz103_4
                          try clear hcz109_0
                          try clear hcz109_1
                          try clear hcz114_0
                          try clear hcz114_1
                          try clear hcz114_2
                          try clear hcz114_3
                          try clear hcz114_4
                          try clear hcz120_0
                          try clear hcz120_1
                          try clear hcz120_2
                          try clear hcz120_3
                          try clear hcz120_4
                          try clear hcz122_0
                          try clear hcz122_1
                          try clear hcz123_0
                          try clear hcz123_1
                          try clear hcz124_0
                          try clear hcz124_1
                          try clear hcz125_0
                          try clear hcz125_1
                          try clear hcz126_0
                          try clear hcz126_1
                          try clear hcz126_2
                          try clear hcz126_3
                          try clear hcz126_4
                          try clear hcz136_0
                          try clear hcz136_1
                          try clear hcz136_2
                          try clear hcz136_3
                          try clear hcz136_4
                          try clear hcz42_4
                          try clear hcz48_0
                          try clear hcz48_1
                          try clear hcz48_2
                          try clear hcz48_3
                          try clear hcz48_4
                          try clear hcz50_0
                          try clear hcz50_1
                          try clear hcz51_0
                          try clear hcz51_1
                          try clear hcz52_0
                          try clear hcz52_1
                          try clear hcz53_0
                          try clear hcz53_1
                          try clear hcz54_0
                          try clear hcz54_1
                          try clear hcz54_2
                          try clear hcz54_3
                          try clear hcz54_4
                          try clear hcz64_0
                          try clear hcz64_1
                          try clear hcz64_2
                          try clear hcz64_3
                          try clear hcz64_4
                          try clear hcz70_0
                          try clear hcz70_1
                          try clear hcz70_2
                          try clear hcz70_3
                          try clear hcz70_4
                          try clear hcz75_0
                          try clear hcz75_1
                          try clear hcz75_2
                          try clear hcz75_3
                          try clear hcz75_4
                          try clear hcz80_0
                          try clear hcz80_1
                          try clear hcz80_2
                          try clear hcz80_3
                          try clear hcz80_4
                          try clear hcz84_0
                          try clear hcz84_1
                          try clear hcz84_2
                          try clear hcz84_3
                          try clear hcz84_4
                          try clear hcz89_0
                          try clear hcz89_1
                          try clear hcz89_2
                          try clear hcz89_3
                          try clear hcz89_4
                          try clear hcz8_0
                          try clear hcz8_1
                          try clear hcz94_0
                          try clear hcz94_1
                          try clear hcz94_2
                          try clear hcz94_3
                          try clear hcz94_4
                          try clear hcz99_0
                          try clear hcz99_1
                          try clear hcz99_2
                          try clear hcz99_3
                          try clear hcz99_4
                          try clear hfz103_0
                          try clear hfz103_1
                          try clear hfz103_2
                          try clear hfz103_3
                          try clear hfz103_4
                          try clear hfz109_0
                          try clear hfz109_1
                          try clear hfz114_0
                          try clear hfz114_1
                          try clear hfz114_2
                          try clear hfz114_3
                          try clear hfz114_4
                          try clear hfz120_0
                          try clear hfz120_1
                          try clear hfz120_2
                          try clear hfz120_3
                          try clear hfz120_4
                          try clear hfz122_0
                          try clear hfz122_1
                          try clear hfz123_0
                          try clear hfz123_1
                          try clear hfz124_0
                          try clear hfz124_1
                          try clear hfz125_0
                          try clear hfz125_1
                          try clear hfz126_0
                          try clear hfz126_1
                          try clear hfz126_2
                          try clear hfz126_3
                          try clear hfz126_4
                          try clear hfz136_0
                          try clear hfz136_1
                          try clear hfz136_2
                          try clear hfz136_3
                          try clear hfz136_4
                          try clear hfz14_0
                          try clear hfz14_1
                          try clear hfz18_0
                          try clear hfz18_1
                          try clear hfz19_0
                          try clear hfz19_1
                          try clear hfz24_0
                          try clear hfz24_1
                          try clear hfz27_0
                          try clear hfz27_1
                          try clear hfz37_0
                          try clear hfz37_1
                          try clear hfz42_0
                          try clear hfz42_1
                          try clear hfz42_2
                          try clear hfz42_3
                          try clear hfz42_4
                          try clear hfz48_0
                          try clear hfz48_1
                          try clear hfz48_2
                          try clear hfz48_3
                          try clear hfz48_4
                          try clear hfz50_0
                          try clear hfz50_1
                          try clear hfz51_0
                          try clear hfz51_1
                          try clear hfz52_0
                          try clear hfz52_1
                          try clear hfz53_0
                          try clear hfz53_1
                          try clear hfz54_0
                          try clear hfz54_1
                          try clear hfz54_2
                          try clear hfz54_3
                          try clear hfz54_4
                          try clear hfz64_0
                          try clear hfz64_1
                          try clear hfz64_2
                          try clear hfz64_3
                          try clear hfz64_4
                          try clear hfz70_0
                          try clear hfz70_1
                          try clear hfz70_2
                          try clear hfz70_3
                          try clear hfz70_4
                          try clear hfz75_0
                          try clear hfz75_1
                          try clear hfz75_2
                          try clear hfz75_3
                          try clear hfz75_4
                          try clear hfz80_0
                          try clear hfz80_1
                          try clear hfz80_2
                          try clear hfz80_3
                          try clear hfz80_4
                          try clear hfz84_0
                          try clear hfz84_1
                          try clear hfz84_2
                          try clear hfz84_3
                          try clear hfz84_4
                          try clear hfz89_0
                          try clear hfz89_1
                          try clear hfz89_2
                          try clear hfz89_3
                          try clear hfz89_4
                          try clear hfz8_0
                          try clear hfz8_1
                          try clear hfz94_0
                          try clear hfz94_1
                          try clear hfz94_2
                          try clear hfz94_3
                          try clear hfz94_4
                          try clear hfz99_0
                          try clear hfz99_1
                          try clear hfz99_2
                          try clear hfz99_3
                          try clear hfz99_4
                          try clear p2
                          obtain ⟨kq, x113000_105, x113001_105, HA, HJ105, BK107, BK108, BK109, BK112, HB⟩ := hcut
                          cases kq with
                          | zero => exact absurd HA.out (by simp [wide_Div.j5])
                          | succ kj105 =>
                            have H := HA.out
                            clear HA
                            simp only [wide_Div.j5] at H
                            by_cases c138 : x113000_105 > 0
                            · rw [if_pos c138] at H
                              have c138b0 : decide (0 < x113000_105) = true := decide_eq_true c138
                              clear c138
                              simp only [Option.some.injEq, Prod.mk.injEq] at H
                              obtain ⟨rfl, rfl⟩ := H
                              have hnb139 := NB112_107.out
                              have hnc139 := NB107_112.out
                              have hnb140 := NB112_108.out
                              have hnc140 := NB108_112.out
                              have hnb141 := NB112_109.out
                              have hnc141 := NB109_112.out
                              have hcz142_0 : wc.cell? ⟨gb112, 0, none⟩ = some (.int .u64 x113000_105) := (blk_cell BK112.out 0).trans rfl
                              have hcz142_1 : wc.cell? ⟨gb112, 1, none⟩ = some (.int .u64 x113001_105) := (blk_cell BK112.out 1).trans rfl
                              have hcz142_2 : wc.cell? ⟨gb112, 2, none⟩ = some (.int .u64 t114) := (blk_cell BK112.out 2).trans rfl
                              have hcz142_3 : wc.cell? ⟨gb112, 3, none⟩ = some (.int .u64 x10_27) := (blk_cell BK112.out 3).trans rfl
                              have hcz142_4 : wc.cell? ⟨gb112, 4, none⟩ = some (.bool (!((decide (a0_0 < 0)) == (decide (a1 < 0))))) := (blk_cell BK112.out 4).trans rfl
                              have hfz142_0 := blk_frozen BK112.out 0
                              have hfz142_1 := blk_frozen BK112.out 1
                              have hfz142_2 := blk_frozen BK112.out 2
                              have hfz142_3 := blk_frozen BK112.out 3
                              have hfz142_4 := blk_frozen BK112.out 4
                              go_wp2
                              go_ret2
                              exact ⟨by first | rfl | (simp [errW_none, errW_some] <;> rfl) | (simp [*, errW_none, errW_some] <;> rfl), by repeat (first | (with_reducible first | exact HB.out | apply below_alloc | apply pw_below_drewN | apply below_drew1 | refine below_set ?_ GE107.out | refine below_set ?_ GE108.out | refine below_set ?_ GE109.out | refine below_set ?_ GE112.out) | exact HB.out)⟩
                            · rw [if_neg c138] at H
                              have c138b0 : decide (0 < x113000_105) = false := decide_eq_false c138
                              clear c138
                              have HC143 := Aside0.mk H
                              clear H
                              have hnb144 := NB112_107.out
                              have hnc144 := NB107_112.out
                              have hnb145 := NB112_108.out
                              have hnc145 := NB108_112.out
                              have hnb146 := NB112_109.out
                              have hnc146 := NB109_112.out
                              have hcz147_0 : wc.cell? ⟨gb112, 0, none⟩ = some (.int .u64 x113000_105) := (blk_cell BK112.out 0).trans rfl
                              have hcz147_1 : wc.cell? ⟨gb112, 1, none⟩ = some (.int .u64 x113001_105) := (blk_cell BK112.out 1).trans rfl
                              have hcz147_2 : wc.cell? ⟨gb112, 2, none⟩ = some (.int .u64 t114) := (blk_cell BK112.out 2).trans rfl
                              have hcz147_3 : wc.cell? ⟨gb112, 3, none⟩ = some (.int .u64 x10_27) := (blk_cell BK112.out 3).trans rfl
                              have hcz147_4 : wc.cell? ⟨gb112, 4, none⟩ = some (.bool (!((decide (a0_0 < 0)) == (decide (a1 < 0))))) := (blk_cell BK112.out 4).trans rfl
                              have hfz147_0 := blk_frozen BK112.out 0
                              have hfz147_1 := blk_frozen BK112.out 1
                              have hfz147_2 := blk_frozen BK112.out 2
                              have hfz147_3 := blk_frozen BK112.out 3
                              have hfz147_4 := blk_frozen BK112.out 4
                              go_upto_region 19 with (fail)
                              go_cut [90] (fun v90 wc => ∃ (kq : Nat) (x90_142 : Bool), v90 = .bool x90_142 ∧ Aside0 (wide_Div.j6 kq x90_142 x113000_105 x113001_105 t114 x10_27 (!((decide (a0_0 < 0)) == (decide (a1 < 0)))) = some (r1, r2)) ∧ Aside0 (kq ≤ kj105) ∧ Aside0 (wc.heap[gb107]? = some (.cells #[.int .i64 a0_0, .int .u64 a0_1] 24 (0, 0))) ∧ Aside0 (wc.heap[gb108]? = some (.cells #[.func (.func 46) #[] #[], .func (.func 47) #[] #[]] 68 (0, 0))) ∧ Aside0 (wc.heap[gb109]? = some (.cells #[.int .i64 x110000_11, .int .u64 x110001_11] 24 (0, 0))) ∧ Aside0 (wc.heap[gb112]? = some (.cells #[.int .u64 x113000_105, .int .u64 x113001_105, .int .u64 t114, .int .u64 x10_27, .bool (!((decide (a0_0 < 0)) == (decide (a1 < 0))))] 67 (0, 0))) ∧ Aside0 (Below w.heap.size w wc))
                              case first =>
                                have H := HC143.out
                                clear HC143
                                by_cases c148 : (!((decide (a0_0 < 0)) == (decide (a1 < 0)))) = true
                                · rw [if_pos c148] at H
                                  have c148b0 : (!((decide (a0_0 < 0)) == (decide (a1 < 0)))) = true := c148
                                  clear c148
                                  (first | rw [c148b0] | (simp only [i64_w, i32_w]; rw [c148b0]) | skip)
                                  have H' := Aside0.mk H
                                  clear H
                                  have hnb149 := NB112_107.out
                                  have hnc149 := NB107_112.out
                                  have hnb150 := NB112_108.out
                                  have hnc150 := NB108_112.out
                                  have hnb151 := NB112_109.out
                                  have hnc151 := NB109_112.out
                                  have hcz152_0 : wc.cell? ⟨gb112, 0, none⟩ = some (.int .u64 x113000_105) := (blk_cell BK112.out 0).trans rfl
                                  have hcz152_1 : wc.cell? ⟨gb112, 1, none⟩ = some (.int .u64 x113001_105) := (blk_cell BK112.out 1).trans rfl
                                  have hcz152_2 : wc.cell? ⟨gb112, 2, none⟩ = some (.int .u64 t114) := (blk_cell BK112.out 2).trans rfl
                                  have hcz152_3 : wc.cell? ⟨gb112, 3, none⟩ = some (.int .u64 x10_27) := (blk_cell BK112.out 3).trans rfl
                                  have hcz152_4 : wc.cell? ⟨gb112, 4, none⟩ = some (.bool (!((decide (a0_0 < 0)) == (decide (a1 < 0))))) := (blk_cell BK112.out 4).trans rfl
                                  have hfz152_0 := blk_frozen BK112.out 0
                                  have hfz152_1 := blk_frozen BK112.out 1
                                  have hfz152_2 := blk_frozen BK112.out 2
                                  have hfz152_3 := blk_frozen BK112.out 3
                                  have hfz152_4 := blk_frozen BK112.out 4
                                  go_wp2
                                  go_meet
                                  case rel => exact ⟨_, (decide (x113001_105 ≤ 9223372036854775808)), (by first | rfl | (simp; done) | (simp [*]; done)), H', ⟨by have := HJ3.out; have := HJ11.out; have := HJ27.out; have := HJ105.out; first | omega | exact Nat.le_refl _⟩, ⟨by (with_reducible repeat (first | refine blk_drewN ?_ _ | refine blk_drew ?_ | refine blk_alloc ?_ _)); exact BK107.out⟩, ⟨by (with_reducible repeat (first | refine blk_drewN ?_ _ | refine blk_drew ?_ | refine blk_alloc ?_ _)); exact BK108.out⟩, ⟨by (with_reducible repeat (first | refine blk_drewN ?_ _ | refine blk_drew ?_ | refine blk_alloc ?_ _)); exact BK109.out⟩, ⟨by (with_reducible repeat (first | refine blk_drewN ?_ _ | refine blk_drew ?_ | refine blk_alloc ?_ _)); exact BK112.out⟩, ⟨by repeat (first | (with_reducible first | exact HB.out | apply below_alloc | apply pw_below_drewN | apply below_drew1 | refine below_set ?_ GE107.out | refine below_set ?_ GE108.out | refine below_set ?_ GE109.out | refine below_set ?_ GE112.out) | exact HB.out)⟩⟩
                                · rw [if_neg c148] at H
                                  have c148b0 : (!((decide (a0_0 < 0)) == (decide (a1 < 0)))) = false := by simpa using c148
                                  clear c148
                                  (first | rw [c148b0] | (simp only [i64_w, i32_w]; rw [c148b0]) | skip)
                                  have H' := Aside0.mk H
                                  clear H
                                  have hnb153 := NB112_107.out
                                  have hnc153 := NB107_112.out
                                  have hnb154 := NB112_108.out
                                  have hnc154 := NB108_112.out
                                  have hnb155 := NB112_109.out
                                  have hnc155 := NB109_112.out
                                  have hcz156_0 : wc.cell? ⟨gb112, 0, none⟩ = some (.int .u64 x113000_105) := (blk_cell BK112.out 0).trans rfl
                                  have hcz156_1 : wc.cell? ⟨gb112, 1, none⟩ = some (.int .u64 x113001_105) := (blk_cell BK112.out 1).trans rfl
                                  have hcz156_2 : wc.cell? ⟨gb112, 2, none⟩ = some (.int .u64 t114) := (blk_cell BK112.out 2).trans rfl
                                  have hcz156_3 : wc.cell? ⟨gb112, 3, none⟩ = some (.int .u64 x10_27) := (blk_cell BK112.out 3).trans rfl
                                  have hcz156_4 : wc.cell? ⟨gb112, 4, none⟩ = some (.bool (!((decide (a0_0 < 0)) == (decide (a1 < 0))))) := (blk_cell BK112.out 4).trans rfl
                                  have hfz156_0 := blk_frozen BK112.out 0
                                  have hfz156_1 := blk_frozen BK112.out 1
                                  have hfz156_2 := blk_frozen BK112.out 2
                                  have hfz156_3 := blk_frozen BK112.out 3
                                  have hfz156_4 := blk_frozen BK112.out 4
                                  go_wp2
                                  go_meet
                                  case rel => exact ⟨_, (false), (by first | rfl | (simp; done) | (simp [*]; done)), H', ⟨by have := HJ3.out; have := HJ11.out; have := HJ27.out; have := HJ105.out; first | omega | exact Nat.le_refl _⟩, ⟨by (with_reducible repeat (first | refine blk_drewN ?_ _ | refine blk_drew ?_ | refine blk_alloc ?_ _)); exact BK107.out⟩, ⟨by (with_reducible repeat (first | refine blk_drewN ?_ _ | refine blk_drew ?_ | refine blk_alloc ?_ _)); exact BK108.out⟩, ⟨by (with_reducible repeat (first | refine blk_drewN ?_ _ | refine blk_drew ?_ | refine blk_alloc ?_ _)); exact BK109.out⟩, ⟨by (with_reducible repeat (first | refine blk_drewN ?_ _ | refine blk_drew ?_ | refine blk_alloc ?_ _)); exact BK112.out⟩, ⟨by repeat (first | (with_reducible first | exact HB.out | apply below_alloc | apply pw_below_drewN | apply below_drew1 | refine below_set ?_ GE107.out | refine below_set ?_ GE108.out | refine below_set ?_ GE109.out | refine below_set ?_ GE112.out) | exact HB.out)⟩⟩
                              case rest =>
                                clear HC143
                                try clear c1
                                try clear hx1
                                try clear p2
                                try clear c3
                                try clear c4
                                try clear c6
                                try clear p6
                                try clear c8
                                try clear c9
                                try clear c10
                                try clear c11
                                try clear c12
                                try clear hx12
                                try clear c13
                                try clear hx13
                                try clear c14
                                try clear c15
                                try clear c32
                                try clear c32b0
                                try clear c32b1
                                try clear c47
                                try clear c49
                                try clear c64
                                try clear p64
                                try clear c85
                                try clear c86
                                try clear c87
                                try clear c88
                                try clear c90
                                try clear c90b0
                                try clear c91
                                try clear c92
                                try clear c93
                                try clear c95
                                try clear c95b0
                                try clear c96
                                try clear c97
                                try clear c98
                                try clear c100
                                try clear c101
                                try clear c102
                                try clear c104
                                try clear c104b0
                                try clear c104b1
                                try clear c107
                                try clear c108
                                try clear c111
                                try clear c112
                                try clear c113
                                try clear c121
                                try clear hx129
                                try clear c131
                                try clear c132
                                try clear c132b0
                                try clear c132b1
                                try clear c133
                                try clear c134
                                try clear c135
                                try clear hx137
                                try clear c138
                                try clear c138b0
                                try clear c139
                                try clear c140
                                try clear c141
                                try clear c144
                                try clear c145
                                try clear c146
                                try clear c148
                                try clear c148b0
                                try clear c149
                                try clear c150
                                try clear c151
                                try clear c153
                                try clear c154
                                try clear c155
                                try clear hcz103_0
                                try clear hcz103_1
                                try clear hcz103_2
                                try clear hcz103_3
                                try clear hcz103_4
                                try clear hcz109_0
                                try clear hcz109_1
                                try clear hcz114_0
                                try clear hcz114_1
                                try clear hcz114_2
                                try clear hcz114_3
                                try clear hcz114_4
                                try clear hcz120_0
                                try clear hcz120_1
                                try clear hcz120_2
                                try clear hcz120_3
                                try clear hcz120_4
                                try clear hcz122_0
                                try clear hcz122_1
                                try clear hcz123_0
                                try clear hcz123_1
                                try clear hcz124_0
                                try clear hcz124_1
                                try clear hcz125_0
                                try clear hcz125_1
                                try clear hcz126_0
                                try clear hcz126_1
                                try clear hcz126_2
                                try clear hcz126_3
                                try clear hcz126_4
                                try clear hcz136_0
                                try clear hcz136_1
                                try clear hcz136_2
                                try clear hcz136_3
                                try clear hcz136_4
                                try clear hcz142_0
                                try clear hcz142_1
                                try clear hcz142_2
                                try clear hcz142_3
                                try clear hcz142_4
                                try clear hcz147_0
                                try clear hcz147_1
                                try clear hcz147_2
                                try clear hcz147_3
                                try clear hcz147_4
                                try clear hcz152_0
                                try clear hcz152_1
                                try clear hcz152_2
                                try clear hcz152_3
                                try clear hcz152_4
                                try clear hcz156_0
                                try clear hcz156_1
                                try clear hcz156_2
                                try clear hcz156_3
                                try clear hcz156_4
                                try clear hcz42_4
                                try clear hcz48_0
                                try clear hcz48_1
                                try clear hcz48_2
                                try clear hcz48_3
                                try clear hcz48_4
                                try clear hcz50_0
                                try clear hcz50_1
                                try clear hcz51_0
                                try clear hcz51_1
                                try clear hcz52_0
                                try clear hcz52_1
                                try clear hcz53_0
                                try clear hcz53_1
                                try clear hcz54_0
                                try clear hcz54_1
                                try clear hcz54_2
                                try clear hcz54_3
                                try clear hcz54_4
                                try clear hcz64_0
                                try clear hcz64_1
                                try clear hcz64_2
                                try clear hcz64_3
                                try clear hcz64_4
                                try clear hcz70_0
                                try clear hcz70_1
                                try clear hcz70_2
                                try clear hcz70_3
                                try clear hcz70_4
                                try clear hcz75_0
                                try clear hcz75_1
                                try clear hcz75_2
                                try clear hcz75_3
                                try clear hcz75_4
                                try clear hcz80_0
                                try clear hcz80_1
                                try clear hcz80_2
                                try clear hcz80_3
                                try clear hcz80_4
                                try clear hcz84_0
                                try clear hcz84_1
                                try clear hcz84_2
                                try clear hcz84_3
                                try clear hcz84_4
                                try clear hcz89_0
                                try clear hcz89_1
                                try clear hcz89_2
                                try clear hcz89_3
                                try clear hcz89_4
                                try clear hcz8_0
                                try clear hcz8_1
                                try clear hcz94_0
                                try clear hcz94_1
                                try clear hcz94_2
                                try clear hcz94_3
                                try clear hcz94_4
                                try clear hcz99_0
                                try clear hcz99_1
                                try clear hcz99_2
                                try clear hcz99_3
                                try clear hcz99_4
                                try clear hfz103_0
                                try clear hfz103_1
                                try clear hfz103_2
                                try clear hfz103_3
                                try clear hfz103_4
                                try clear hfz109_0
                                try clear hfz109_1
                                try clear hfz114_0
                                try clear hfz114_1
                                try clear hfz114_2
                                try clear hfz114_3
                                try clear hfz114_4
                                try clear hfz120_0
                                try clear hfz120_1
                                try clear hfz120_2
                                try clear hfz120_3
                                try clear hfz120_4
                                try clear hfz122_0
                                try clear hfz122_1
                                try clear hfz123_0
                                try clear hfz123_1
                                try clear hfz124_0
                                try clear hfz124_1
                                try clear hfz125_0
                                try clear hfz125_1
                                try clear hfz126_0
                                try clear hfz126_1
                                try clear hfz126_2
                                try clear hfz126_3
                                try clear hfz126_4
                                try clear hfz136_0
                                try clear hfz136_1
                                try clear hfz136_2
                                try clear hfz136_3
                                try clear hfz136_4
                                try clear hfz142_0
                                try clear hfz142_1
                                try clear hfz142_2
                                try clear hfz142_3
                                try clear hfz142_4
                                try clear hfz147_0
                                try clear hfz147_1
                                try clear hfz147_2
                                try clear hfz147_3
                                try clear hfz147_4
                                try clear hfz14_0
                                try clear hfz14_1
                                try clear hfz152_0
                                try clear hfz152_1
                                try clear hfz152_2
                                try clear hfz152_3
                                try clear hfz152_4
                                try clear hfz156_0
                                try clear hfz156_1
                                try clear hfz156_2
                                try clear hfz156_3
                                try clear hfz156_4
                                try clear hfz18_0
                                try clear hfz18_1
                                try clear hfz19_0
                                try clear hfz19_1
                                try clear hfz24_0
                                try clear hfz24_1
                                try clear hfz27_0
                                try clear hfz27_1
                                try clear hfz37_0
                                try clear hfz37_1
                                try clear hfz42_0
                                try clear hfz42_1
                                try clear hfz42_2
                                try clear hfz42_3
                                try clear hfz42_4
                                try clear hfz48_0
                                try clear hfz48_1
                                try clear hfz48_2
                                try clear hfz48_3
                                try clear hfz48_4
                                try clear hfz50_0
                                try clear hfz50_1
                                try clear hfz51_0
                                try clear hfz51_1
                                try clear hfz52_0
                                try clear hfz52_1
                                try clear hfz53_0
                                try clear hfz53_1
                                try clear hfz54_0
                                try clear hfz54_1
                                try clear hfz54_2
                                try clear hfz54_3
                                try clear hfz54_4
                                try clear hfz64_0
                                try clear hfz64_1
                                try clear hfz64_2
                                try clear hfz64_3
                                try clear hfz64_4
                                try clear hfz70_0
                                try clear hfz70_1
                                try clear hfz70_2
                                try clear hfz70_3
                                try clear hfz70_4
                                try clear hfz75_0
                                try clear hfz75_1
                                try clear hfz75_2
                                try clear hfz75_3
                                try clear hfz75_4
                                try clear hfz80_0
                                try clear hfz80_1
                                try clear hfz80_2
                                try clear hfz80_3
                                try clear hfz80_4
                                try clear hfz84_0
                                try clear hfz84_1
                                try clear hfz84_2
                                try clear hfz84_3
                                try clear hfz84_4
                                try clear hfz89_0
                                try clear hfz89_1
                                try clear hfz89_2
                                try clear hfz89_3
                                try clear hfz89_4
                                try clear hfz8_0
                                try clear hfz8_1
                                try clear hfz94_0
                                try clear hfz94_1
                                try clear hfz94_2
                                try clear hfz94_3
                                try clear hfz94_4
                                try clear hfz99_0
                                try clear hfz99_1
                                try clear hfz99_2
                                try clear hfz99_3
                                try clear hfz99_4
                                try clear p2
                                try clear p6
                                try clear p64
                                obtain ⟨kq, x90_142, rfl, HA, HJ142, BK107, BK108, BK109, BK112, HB⟩ := hcut
                                cases kq with
                                | zero => exact absurd HA.out (by simp [wide_Div.j6])
                                | succ kj142 =>
                                  have H := HA.out
                                  clear HA
                                  simp only [wide_Div.j6] at H
                                  by_cases c157 : x90_142 = true
                                  · subst c157
                                    have H1 : (some (wrap64 (IntKind.u64.wrap (-x113001_105)), 0)) = some (r1, r2) := by rw [if_pos rfl] at H; exact H
                                    clear H
                                    have H := H1
                                    clear H1
                                    simp only [Option.some.injEq, Prod.mk.injEq] at H
                                    obtain ⟨rfl, rfl⟩ := H
                                    have hnb158 := NB112_107.out
                                    have hnc158 := NB107_112.out
                                    have hnb159 := NB112_108.out
                                    have hnc159 := NB108_112.out
                                    have hnb160 := NB112_109.out
                                    have hnc160 := NB109_112.out
                                    have hcz161_0 : wc.cell? ⟨gb112, 0, none⟩ = some (.int .u64 x113000_105) := (blk_cell BK112.out 0).trans rfl
                                    have hcz161_1 : wc.cell? ⟨gb112, 1, none⟩ = some (.int .u64 x113001_105) := (blk_cell BK112.out 1).trans rfl
                                    have hcz161_2 : wc.cell? ⟨gb112, 2, none⟩ = some (.int .u64 t114) := (blk_cell BK112.out 2).trans rfl
                                    have hcz161_3 : wc.cell? ⟨gb112, 3, none⟩ = some (.int .u64 x10_27) := (blk_cell BK112.out 3).trans rfl
                                    have hcz161_4 : wc.cell? ⟨gb112, 4, none⟩ = some (.bool (!((decide (a0_0 < 0)) == (decide (a1 < 0))))) := (blk_cell BK112.out 4).trans rfl
                                    have hfz161_0 := blk_frozen BK112.out 0
                                    have hfz161_1 := blk_frozen BK112.out 1
                                    have hfz161_2 := blk_frozen BK112.out 2
                                    have hfz161_3 := blk_frozen BK112.out 3
                                    have hfz161_4 := blk_frozen BK112.out 4
                                    go_wp2
                                    go_ret2
                                    exact ⟨by first | rfl | (simp [errW_none, errW_some] <;> rfl) | (simp [*, errW_none, errW_some] <;> rfl), by repeat (first | (with_reducible first | exact HB.out | apply below_alloc | apply pw_below_drewN | apply below_drew1 | refine below_set ?_ GE107.out | refine below_set ?_ GE108.out | refine below_set ?_ GE109.out | refine below_set ?_ GE112.out) | exact HB.out)⟩
                                  · replace c157 := Bool.eq_false_iff.mpr c157
                                    subst c157
                                    have H1 : (if (!((decide (a0_0 < 0)) == (decide (a1 < 0)))) = true then (some (0, 3)) else (if x113001_105 < 9223372036854775808 then (some (wrap64 (x113001_105), 0)) else (some (0, 3)))) = some (r1, r2) := by rw [if_neg (show ¬ (false = true) by decide)] at H; exact H
                                    clear H
                                    have H := H1
                                    clear H1
                                    by_cases c162 : (!((decide (a0_0 < 0)) == (decide (a1 < 0)))) = true
                                    · rw [if_pos c162] at H
                                      have c162b0 : (!((decide (a0_0 < 0)) == (decide (a1 < 0)))) = true := c162
                                      clear c162
                                      simp only [Option.some.injEq, Prod.mk.injEq] at H
                                      obtain ⟨rfl, rfl⟩ := H
                                      have hnb163 := NB112_107.out
                                      have hnc163 := NB107_112.out
                                      have hnb164 := NB112_108.out
                                      have hnc164 := NB108_112.out
                                      have hnb165 := NB112_109.out
                                      have hnc165 := NB109_112.out
                                      have hcz166_0 : wc.cell? ⟨gb112, 0, none⟩ = some (.int .u64 x113000_105) := (blk_cell BK112.out 0).trans rfl
                                      have hcz166_1 : wc.cell? ⟨gb112, 1, none⟩ = some (.int .u64 x113001_105) := (blk_cell BK112.out 1).trans rfl
                                      have hcz166_2 : wc.cell? ⟨gb112, 2, none⟩ = some (.int .u64 t114) := (blk_cell BK112.out 2).trans rfl
                                      have hcz166_3 : wc.cell? ⟨gb112, 3, none⟩ = some (.int .u64 x10_27) := (blk_cell BK112.out 3).trans rfl
                                      have hcz166_4 : wc.cell? ⟨gb112, 4, none⟩ = some (.bool (!((decide (a0_0 < 0)) == (decide (a1 < 0))))) := (blk_cell BK112.out 4).trans rfl
                                      have hfz166_0 := blk_frozen BK112.out 0
                                      have hfz166_1 := blk_frozen BK112.out 1
                                      have hfz166_2 := blk_frozen BK112.out 2
                                      have hfz166_3 := blk_frozen BK112.out 3
                                      have hfz166_4 := blk_frozen BK112.out 4
                                      go_wp2
                                      go_ret2
                                      exact ⟨by first | rfl | (simp [errW_none, errW_some] <;> rfl) | (simp [*, errW_none, errW_some] <;> rfl), by repeat (first | (with_reducible first | exact HB.out | apply below_alloc | apply pw_below_drewN | apply below_drew1 | refine below_set ?_ GE107.out | refine below_set ?_ GE108.out | refine below_set ?_ GE109.out | refine below_set ?_ GE112.out) | exact HB.out)⟩
                                    · rw [if_neg c162] at H
                                      have c162b0 : (!((decide (a0_0 < 0)) == (decide (a1 < 0)))) = false := by simpa using c162
                                      clear c162
                                      by_cases c167 : x113001_105 < 9223372036854775808
                                      · rw [if_pos c167] at H
                                        have c167b0 : decide (x113001_105 < 9223372036854775808) = true := decide_eq_true c167
                                        clear c167
                                        simp only [Option.some.injEq, Prod.mk.injEq] at H
                                        obtain ⟨rfl, rfl⟩ := H
                                        have hnb168 := NB112_107.out
                                        have hnc168 := NB107_112.out
                                        have hnb169 := NB112_108.out
                                        have hnc169 := NB108_112.out
                                        have hnb170 := NB112_109.out
                                        have hnc170 := NB109_112.out
                                        have hcz171_0 : wc.cell? ⟨gb112, 0, none⟩ = some (.int .u64 x113000_105) := (blk_cell BK112.out 0).trans rfl
                                        have hcz171_1 : wc.cell? ⟨gb112, 1, none⟩ = some (.int .u64 x113001_105) := (blk_cell BK112.out 1).trans rfl
                                        have hcz171_2 : wc.cell? ⟨gb112, 2, none⟩ = some (.int .u64 t114) := (blk_cell BK112.out 2).trans rfl
                                        have hcz171_3 : wc.cell? ⟨gb112, 3, none⟩ = some (.int .u64 x10_27) := (blk_cell BK112.out 3).trans rfl
                                        have hcz171_4 : wc.cell? ⟨gb112, 4, none⟩ = some (.bool (!((decide (a0_0 < 0)) == (decide (a1 < 0))))) := (blk_cell BK112.out 4).trans rfl
                                        have hfz171_0 := blk_frozen BK112.out 0
                                        have hfz171_1 := blk_frozen BK112.out 1
                                        have hfz171_2 := blk_frozen BK112.out 2
                                        have hfz171_3 := blk_frozen BK112.out 3
                                        have hfz171_4 := blk_frozen BK112.out 4
                                        go_wp2
                                        go_ret2
                                        exact ⟨by first | rfl | (simp [errW_none, errW_some] <;> rfl) | (simp [*, errW_none, errW_some] <;> rfl), by repeat (first | (with_reducible first | exact HB.out | apply below_alloc | apply pw_below_drewN | apply below_drew1 | refine below_set ?_ GE107.out | refine below_set ?_ GE108.out | refine below_set ?_ GE109.out | refine below_set ?_ GE112.out) | exact HB.out)⟩
                                      · rw [if_neg c167] at H
                                        have c167b0 : decide (x113001_105 < 9223372036854775808) = false := decide_eq_false c167
                                        clear c167
                                        simp only [Option.some.injEq, Prod.mk.injEq] at H
                                        obtain ⟨rfl, rfl⟩ := H
                                        have hnb172 := NB112_107.out
                                        have hnc172 := NB107_112.out
                                        have hnb173 := NB112_108.out
                                        have hnc173 := NB108_112.out
                                        have hnb174 := NB112_109.out
                                        have hnc174 := NB109_112.out
                                        have hcz175_0 : wc.cell? ⟨gb112, 0, none⟩ = some (.int .u64 x113000_105) := (blk_cell BK112.out 0).trans rfl
                                        have hcz175_1 : wc.cell? ⟨gb112, 1, none⟩ = some (.int .u64 x113001_105) := (blk_cell BK112.out 1).trans rfl
                                        have hcz175_2 : wc.cell? ⟨gb112, 2, none⟩ = some (.int .u64 t114) := (blk_cell BK112.out 2).trans rfl
                                        have hcz175_3 : wc.cell? ⟨gb112, 3, none⟩ = some (.int .u64 x10_27) := (blk_cell BK112.out 3).trans rfl
                                        have hcz175_4 : wc.cell? ⟨gb112, 4, none⟩ = some (.bool (!((decide (a0_0 < 0)) == (decide (a1 < 0))))) := (blk_cell BK112.out 4).trans rfl
                                        have hfz175_0 := blk_frozen BK112.out 0
                                        have hfz175_1 := blk_frozen BK112.out 1
                                        have hfz175_2 := blk_frozen BK112.out 2
                                        have hfz175_3 := blk_frozen BK112.out 3
                                        have hfz175_4 := blk_frozen BK112.out 4
                                        go_wp2
                                        go_ret2
                                        exact ⟨by first | rfl | (simp [errW_none, errW_some] <;> rfl) | (simp [*, errW_none, errW_some] <;> rfl), by repeat (first | (with_reducible first | exact HB.out | apply below_alloc | apply pw_below_drewN | apply below_drew1 | refine below_set ?_ GE107.out | refine below_set ?_ GE108.out | refine below_set ?_ GE109.out | refine below_set ?_ GE112.out) | exact HB.out)⟩
                      · rw [if_neg c104] at H
                        exact absurd H (by simp)

end Go.Proofs.Ytohbdjfabghagaa.S
