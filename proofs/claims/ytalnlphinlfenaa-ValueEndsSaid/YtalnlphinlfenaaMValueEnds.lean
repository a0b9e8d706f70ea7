/- The statement ValueEndsSaid: for every input the law returns true, and each argument reads afterwards as it read before. Conditions: none. -/
import Derived.Test.YtalnlphinlfenaaWWords
import Derived.Test.YtalnlphinlfenaaSx0
import Derived.Test.YtalnlphinlfenaaSxRateMay
import Derived.Test.YtalnlphinlfenaaMValueEnds1
import Derived.Test.YtalnlphinlfenaaSxRateDiscount
import Derived.Test.YtalnlphinlfenaaSxMathBitsAdd64
import Derived.Test.YtalnlphinlfenaaSxMoneyTold
import Derived.ChangeArms
import Derived.DataReads
import Derived.WideShapes
import Derived.Deep.Slices
import Derived.Test.YtalnlphinlfenaaRows
import Derived.WalkKit
import Derived.ProofKit
import Derived.OpenShut
import Derived.ShutString
import Derived.ChangeOld
import Derived.Below
import Derived.SizedLaws
import Derived.Carry
section
namespace Go.Proofs.Ytalnlphinlfenaa.XMake
set_option linter.unusedVariables false
set_option linter.unusedSimpArgs false
open Go.RowKit Go.Proofs.YtalnlphinlfenaaW.PrintWords Go.Proofs.YtalnlphinlfenaaW.PrintWords.Kd
variable {P : Program} {ops : Array Oper} {rest : List Oper} {o : Oper} {a : Act} {Q : Exit → Act → World → Prop} {W : World} {α : Type}
theorem make_any (d : Kd α) {w0 W : World} (base e : Nat) (hgd : o.guard = none) {N : Tmp} (hd : o.dst = some N) (t : TypeId) (x y : Operand) (ho : o.op = .makeSlice t x y) {kx : IntKind} (n : Int) (hx : a.eval x = .int kx n) (hy : a.eval y = .int kx n)
    (ht : P.underlying t = some (.slice e)) (z : Value) (bytes : Nat) (hinfo : (P.info? e).map (fun i => (i.zero, i.size, i.bytes)) = some (some z, d.sz, bytes)) (hz : z.cells.size = d.sz) (hs0 : 0 < d.sz) (hb0 : 0 < bytes)
    (z0 : α) {ok okp : Nat → Prop} (hzero : d.M W base okp z0 z.cells.toList) (hok : ∀ k, okp k → ok k) (hfresh : ok W.heap.size) (h0 : 0 ≤ n) (hl : n.toNat * bytes ≤ 281474976710656) (HB : Below base w0 W) (hbase : base ≤ W.heap.size)
    (h : ∀ v1 w1, d.R e w1 base ok v1 (List.replicate n.toNat z0) → Below base w0 w1 → W.grownBy w1 none → (∃ b, v1.ownBlock = some b ∧ W.heap.size ≤ b) → wpList P ops Q rest (a.put o.dst v1) w1) : wpList P ops Q (o :: rest) a W := by
  obtain ⟨m, rfl⟩ := Int.eq_ofNat_of_zero_le h0
  simp only [Int.toNat_natCast] at hl h
  obtain ⟨i0, hi, hzz⟩ := Option.map_eq_some_iff.1 hinfo
  simp only [Prod.mk.injEq] at hzz
  obtain ⟨hz0, hz1, hz2⟩ := hzz
  have hm : m ≤ 281474976710656 := Nat.le_trans (Nat.le_mul_of_pos_right _ hb0) hl
  have hr := run_make (P := P) W t e i0 z ht hi hz0 kx kx (m : Int) (m : Int) (by omega) (by omega)
    (by
      have h3 : ((i0.bytes * m : Nat) : Int) ≤ 281474976710656 := by rw [hz2, Nat.mul_comm]; omega
      rwa [Int.natCast_mul] at h3) (by omega)
  simp only [Int.toNat_natCast] at hr
  rw [hz1] at hr
  refine R_lit d base e hgd hd (xs := List.replicate m z0) (inner := (madeCells z.cells (m * d.sz)).toList) (okp := okp) (ok := ok) ?_ (reps_made hz hs0 hzero m) hok hfresh HB hbase (by simp; omega) h
  simp [execOp, ho, hx, hy, hr]
end Go.Proofs.Ytalnlphinlfenaa.XMake
end

section
namespace Go.Proofs.Ytalnlphinlfenaa.S
open Go.RowKit Go.Proofs.YtalnlphinlfenaaW.PrintWords Go.Proofs.YtalnlphinlfenaaW.PrintLast Go.Proofs.YtalnlphinlfenaaW.PrintMore
attribute [local go_sem] max2_int min2_int max_two min_two max_three min_three max_four min_four   -- for this text's walks alone
attribute [local go_sem] Go.Proofs.Ytalnlphinlfenaa.XWalk.cell2
set_option linter.unusedVariables false
set_option linter.unusedSimpArgs false

/-! ### value_times: function 38 -/
def value_times.f (k : Nat) (l0 : List Int) (a1 : Int) (a2 : Int) : Option (List Int × Int) := if (l0.length : Int) > 600 then (some (([] : List Int), 10)) else ((slices_ContainsFunc_int64_int64__value_times_1.f k l0).bind fun t314 => (if t314 = true then (some (([] : List Int), 2)) else ((rate_May.f a1).bind fun t315 => (if t315 = true then ((value_fold_int64_int64__value_times_2.f k l0 0 a2 a1).bind fun bt316 => (some (bt316.1, bt316.2))) else (some (([] : List Int), 2))))))
set_option maxHeartbeats 8000000 in
set_option maxRecDepth 100000 in
theorem value_times.calls (k : Nat) (A0 : Option Addr) (c0 : Nat) (l0 : List Int) (a1 : Int) (a2 : Int) (r1 : List Int) (r2 : Int) (w : World) (hr0 : Kd.C (Kd.int .i64) w A0 l0.length l0) (hc0 : l0.length ≤ c0) (h : value_times.f k l0 a1 a2 = some (r1, r2)) :
    Calls Try.prog 38 #[.slice A0 l0.length c0, .int .i64 a1, .int .i64 a2] w fun e w' => ∃ v0_ : Value, e = .returned (.tuple #[v0_, .int .i64 r2]) ∧ Kd.R (Kd.int .i64) 2 w' w.heap.size (fun _ => True) v0_ r1 ∧ Below w.heap.size w w' := by
  have HR0 := Aside0.mk hr0
  have HC0 := Aside0.mk hc0
  clear hr0 hc0
  have HB := Aside0.mk (Below.refl w.heap.size w)
  have H : (if (l0.length : Int) > 600 then (some (([] : List Int), 10)) else ((slices_ContainsFunc_int64_int64__value_times_1.f k l0).bind fun t314 => (if t314 = true then (some (([] : List Int), 2)) else ((rate_May.f a1).bind fun t315 => (if t315 = true then ((value_fold_int64_int64__value_times_2.f k l0 0 a2 a1).bind fun bt316 => (some (bt316.1, bt316.2))) else (some (([] : List Int), 2))))))) = some (r1, r2) := h
  clear h
  by_cases c4 : (l0.length : Int) > 600
  · rw [if_pos c4] at H
    have c4b0 : decide (600 < (l0.length : Int)) = true := decide_eq_true c4
    have c4b1 : decide (600 < l0.length) = true := decide_eq_true (by omega)
    clear c4
    simp only [Option.some.injEq, Prod.mk.injEq] at H
    obtain ⟨rfl, rfl⟩ := H
    go_enter Try.func38, Try.ntmps38
    go_wp2_with (first | ((with_reducible refine gate_dst (N := 4) rfl ?_); refine box_event ?hg (N := 4) ?hd (cs := #[.int .i64 a1]) (t := 2) ?hr ?_; (case hd => rfl); (case hg => rfl); (case hr => first | (go_simp; done) | (go_simp; rfl)); intro gb312 hg w5 hbox hb; have n0_ := Aside0.mk (below_step (by repeat (first | (with_reducible first | exact HB.out | apply below_alloc | apply pw_below_drewN | apply below_drew1) | exact HB.out)) hb); have n1_ := Aside0.mk (hbox); have n2_ := Aside0.mk ((by rw [hg]; exact (below_size (by repeat (first | (with_reducible first | exact HB.out | apply below_alloc | apply pw_below_drewN | apply below_drew1) | exact HB.out))) : w.heap.size ≤ gb312)); have n3_ := Aside0.mk ((by rw [hg]; exact (below_size (by repeat (first | (with_reducible first | exact HB.out | apply below_alloc | apply pw_below_drewN | apply below_drew1) | exact HB.out))) : w.heap.size ≤ gb312)); clear HB; have HB := n0_; have BK312 := n1_; have GW312 := n2_; have GE312 := n3_; clear n0_ n1_ n2_ n3_; clear hb hbox hg) | ((with_reducible refine gate_dst (N := 5) rfl ?_); refine box_event ?hg (N := 5) ?hd (cs := #[.int .i64 a2]) (t := 2) ?hr ?_; (case hd => rfl); (case hg => rfl); (case hr => first | (go_simp; done) | (go_simp; rfl)); intro gb313 hg w6 hbox hb; have n0_ := Aside0.mk (blk_below (g := gb312) (o := .cells #[.int .i64 a1] 2 (0, 0)) (by (with_reducible repeat (first | refine blk_drewN ?_ _ | refine blk_drew ?_ | refine blk_alloc ?_ _)); exact BK312.out) hb); have n1_ := Aside0.mk (below_step (by repeat (first | (with_reducible first | exact HB.out | apply below_alloc | apply pw_below_drewN | apply below_drew1 | refine below_set ?_ GE312.out) | exact HB.out)) hb); have n2_ := Aside0.mk (hbox); have n3_ := Aside0.mk ((by rw [hg]; exact (below_size (by repeat (first | (with_reducible first | exact HB.out | apply below_alloc | apply pw_below_drewN | apply below_drew1 | refine below_set ?_ GE312.out) | exact HB.out))) : w.heap.size ≤ gb313)); have n4_ := Aside0.mk ((by rw [hg]; exact (below_size (by repeat (first | (with_reducible first | exact HB.out | apply below_alloc | apply pw_below_drewN | apply below_drew1 | refine below_set ?_ GE312.out) | exact HB.out))) : w.heap.size ≤ gb313)); have n5_ := Aside0.mk ((by rw [hg]; exact Nat.ne_of_lt (blk_lt (g := gb312) (o := .cells #[.int .i64 a1] 2 (0, 0)) (by (with_reducible repeat (first | refine blk_drewN ?_ _ | refine blk_drew ?_ | refine blk_alloc ?_ _)); exact BK312.out)) : gb312 ≠ gb313)); have n6_ := Aside0.mk ((by rw [hg]; exact Nat.ne_of_gt (blk_lt (g := gb312) (o := .cells #[.int .i64 a1] 2 (0, 0)) (by (with_reducible repeat (first | refine blk_drewN ?_ _ | refine blk_drew ?_ | refine blk_alloc ?_ _)); exact BK312.out)) : gb313 ≠ gb312)); clear BK312; clear HB; have BK312 := n0_; have HB := n1_; have BK313 := n2_; have GW313 := n3_; have GE313 := n4_; have NB312_313 := n5_; have NB313_312 := n6_; clear n0_ n1_ n2_ n3_ n4_ n5_ n6_; clear hb hbox hg))
    go_ret2
    exact ⟨_, by first | rfl | (simp [errW_none, errW_some] <;> rfl) | (simp [*, errW_none, errW_some] <;> rfl), by first | exact Kd.R_nil _ _ _ _ _ | exact Kd.N_nil _ _ _ _ _ | exact Kd.V_nil _ _ _ _ _ | exact Kd.Q_nil _ _ _ _ _ | exact Kd.S_nil _ _ _ _ _, by repeat (first | (with_reducible first | exact HB.out | apply below_alloc | apply pw_below_drewN | apply below_drew1 | refine below_set ?_ GE312.out | refine below_set ?_ GE313.out) | exact HB.out)⟩
  · rw [if_neg c4] at H
    have c4b0 : decide (600 < (l0.length : Int)) = false := decide_eq_false c4
    have c4b1 : decide (600 < l0.length) = false := decide_eq_false (by omega)
    clear c4
    have HC7 := Aside0.mk H
    clear H
    go_enter Try.func38, Try.ntmps38
    go_upto_region 4 with (first | ((with_reducible refine gate_dst (N := 4) rfl ?_); refine box_event ?hg (N := 4) ?hd (cs := #[.int .i64 a1]) (t := 2) ?hr ?_; (case hd => rfl); (case hg => rfl); (case hr => first | (go_simp; done) | (go_simp; rfl)); intro gb312 hg w8 hbox hb; have n0_ := Aside0.mk (below_step (by repeat (first | (with_reducible first | exact HB.out | apply below_alloc | apply pw_below_drewN | apply below_drew1) | exact HB.out)) hb); have n1_ := Aside0.mk (hbox); have n2_ := Aside0.mk ((by rw [hg]; exact (below_size (by repeat (first | (with_reducible first | exact HB.out | apply below_alloc | apply pw_below_drewN | apply below_drew1) | exact HB.out))) : w.heap.size ≤ gb312)); have n3_ := Aside0.mk ((by rw [hg]; exact (below_size (by repeat (first | (with_reducible first | exact HB.out | apply below_alloc | apply pw_below_drewN | apply below_drew1) | exact HB.out))) : w.heap.size ≤ gb312)); clear HB; have HB := n0_; have BK312 := n1_; have GW312 := n2_; have GE312 := n3_; clear n0_ n1_ n2_ n3_; clear hb hbox hg) | ((with_reducible refine gate_dst (N := 5) rfl ?_); refine box_event ?hg (N := 5) ?hd (cs := #[.int .i64 a2]) (t := 2) ?hr ?_; (case hd => rfl); (case hg => rfl); (case hr => first | (go_simp; done) | (go_simp; rfl)); intro gb313 hg w9 hbox hb; have n0_ := Aside0.mk (blk_below (g := gb312) (o := .cells #[.int .i64 a1] 2 (0, 0)) (by (with_reducible repeat (first | refine blk_drewN ?_ _ | refine blk_drew ?_ | refine blk_alloc ?_ _)); exact BK312.out) hb); have n1_ := Aside0.mk (below_step (by repeat (first | (with_reducible first | exact HB.out | apply below_alloc | apply pw_below_drewN | apply below_drew1 | refine below_set ?_ GE312.out) | exact HB.out)) hb); have n2_ := Aside0.mk (hbox); have n3_ := Aside0.mk ((by rw [hg]; exact (below_size (by repeat (first | (with_reducible first | exact HB.out | apply below_alloc | apply pw_below_drewN | apply below_drew1 | refine below_set ?_ GE312.out) | exact HB.out))) : w.heap.size ≤ gb313)); have n4_ := Aside0.mk ((by rw [hg]; exact (below_size (by repeat (first | (with_reducible first | exact HB.out | apply below_alloc | apply pw_below_drewN | apply below_drew1 | refine below_set ?_ GE312.out) | exact HB.out))) : w.heap.size ≤ gb313)); have n5_ := Aside0.mk ((by rw [hg]; exact Nat.ne_of_lt (blk_lt (g := gb312) (o := .cells #[.int .i64 a1] 2 (0, 0)) (by (with_reducible repeat (first | refine blk_drewN ?_ _ | refine blk_drew ?_ | refine blk_alloc ?_ _)); exact BK312.out)) : gb312 ≠ gb313)); have n6_ := Aside0.mk ((by rw [hg]; exact Nat.ne_of_gt (blk_lt (g := gb312) (o := .cells #[.int .i64 a1] 2 (0, 0)) (by (with_reducible repeat (first | refine blk_drewN ?_ _ | refine blk_drew ?_ | refine blk_alloc ?_ _)); exact BK312.out)) : gb313 ≠ gb312)); clear BK312; clear HB; have BK312 := n0_; have HB := n1_; have BK313 := n2_; have GW313 := n3_; have GE313 := n4_; have NB312_313 := n5_; have NB313_312 := n6_; clear n0_ n1_ n2_ n3_ n4_ n5_ n6_; clear hb hbox hg))
    have H := HC7.out
    clear HC7
    replace H := Option.bind_eq_some_iff.mp H
    obtain ⟨t314, A100, H⟩ := H
    replace H : (if t314 = true then (some (([] : List Int), 2)) else ((rate_May.f a1).bind fun t315 => (if t315 = true then ((value_fold_int64_int64__value_times_2.f k l0 0 a2 a1).bind fun bt316 => (some (bt316.1, bt316.2))) else (some (([] : List Int), 2))))) = some (r1, r2) := H
    have A10 := Aside0.mk A100
    clear A100
    by_cases c11 : t314 = true
    · subst c11
      have H1 : (some (([] : List Int), 2)) = some (r1, r2) := by rw [if_pos rfl] at H; exact H
      clear H
      have H := H1
      clear H1
      simp only [Option.some.injEq, Prod.mk.injEq] at H
      obtain ⟨rfl, rfl⟩ := H
      go_wp2_with (first | ((with_reducible refine gate_callee (f := 55) rfl ?_); refine goesL_ (some 16) rfl rfl Try.func55 (by kernel_rfl) rfl #[.slice A0 l0.length c0, .func (.func 53) #[] #[]] rfl (by (try simp only [List.map_toArray, List.map_cons, List.map_nil]); first | done | rfl | (simp only [List.length_drop, List.length_take]; rfl)) ?_; (with_reducible refine (slices_ContainsFunc_int64_int64__value_times_1.calls k _ _ l0  true _ ?side1 ?side2 A10.out).mono ?_); (case side1 => repeat (first | exact (Kd.C_below HR0.out HB.out) | (with_reducible refine Kd.C_alloc ?_ _) | (with_reducible refine Kd.C_drewN ?_ _) | (with_reducible refine Kd.C_drew ?_))); (case side2 => exact HC0.out); rintro e w12 ⟨rfl, hb⟩; refine ⟨_, rfl, ?_⟩; have n0_ := Aside0.mk (blk_below (g := gb312) (o := .cells #[.int .i64 a1] 2 (0, 0)) (by (with_reducible repeat (first | refine blk_drewN ?_ _ | refine blk_drew ?_ | refine blk_alloc ?_ _)); exact BK312.out) hb); have n1_ := Aside0.mk (blk_below (g := gb313) (o := .cells #[.int .i64 a2] 2 (0, 0)) (by (with_reducible repeat (first | refine blk_drewN ?_ _ | refine blk_drew ?_ | refine blk_alloc ?_ _)); exact BK313.out) hb); have n2_ := Aside0.mk (below_step (by repeat (first | (with_reducible first | exact HB.out | apply below_alloc | apply pw_below_drewN | apply below_drew1 | refine below_set ?_ GE312.out | refine below_set ?_ GE313.out) | exact HB.out)) hb); clear BK312; clear BK313; clear HB; have BK312 := n0_; have BK313 := n1_; have HB := n2_; clear n0_ n1_ n2_; (try clear hb); (try clear hb2); (try clear hk); (try clear hi)))
      go_ret2
      exact ⟨_, by first | rfl | (simp [errW_none, errW_some] <;> rfl) | (simp [*, errW_none, errW_some] <;> rfl), by first | exact Kd.R_nil _ _ _ _ _ | exact Kd.N_nil _ _ _ _ _ | exact Kd.V_nil _ _ _ _ _ | exact Kd.Q_nil _ _ _ _ _ | exact Kd.S_nil _ _ _ _ _, by repeat (first | (with_reducible first | exact HB.out | apply below_alloc | apply pw_below_drewN | apply below_drew1 | refine below_set ?_ GE312.out | refine below_set ?_ GE313.out) | exact HB.out)⟩
    · replace c11 := Bool.eq_false_iff.mpr c11
      subst c11
      have H1 : ((rate_May.f a1).bind fun t315 => (if t315 = true then ((value_fold_int64_int64__value_times_2.f k l0 0 a2 a1).bind fun bt316 => (some (bt316.1, bt316.2))) else (some (([] : List Int), 2)))) = some (r1, r2) := by rw [if_neg (show ¬ (false = true) by decide)] at H; exact H
      clear H
      have H := H1
      clear H1
      replace H := Option.bind_eq_some_iff.mp H
      obtain ⟨t315, A130, H⟩ := H
      replace H : (if t315 = true then ((value_fold_int64_int64__value_times_2.f k l0 0 a2 a1).bind fun bt316 => (some (bt316.1, bt316.2))) else (some (([] : List Int), 2))) = some (r1, r2) := H
      have A13 := Aside0.mk A130
      clear A130
      by_cases c14 : t315 = true
      · subst c14
        have H1 : ((value_fold_int64_int64__value_times_2.f k l0 0 a2 a1).bind fun bt316 => (some (bt316.1, bt316.2))) = some (r1, r2) := by rw [if_pos rfl] at H; exact H
        clear H
        have H := H1
        clear H1
        replace H := Option.bind_eq_some_iff.mp H
        obtain ⟨⟨t316, t317⟩, A150, H⟩ := H
        replace H : (some (t316, t317)) = some (r1, r2) := H
        have A15 := Aside0.mk A150
        clear A150
        simp only [Option.some.injEq, Prod.mk.injEq] at H
        obtain ⟨rfl, rfl⟩ := H
        go_wp2_with (first | ((with_reducible refine gate_callee (f := 55) rfl ?_); refine goesL_ (some 16) rfl rfl Try.func55 (by kernel_rfl) rfl #[.slice A0 l0.length c0, .func (.func 53) #[] #[]] rfl (by (try simp only [List.map_toArray, List.map_cons, List.map_nil]); first | done | rfl | (simp only [List.length_drop, List.length_take]; rfl)) ?_; (with_reducible refine (slices_ContainsFunc_int64_int64__value_times_1.calls k _ _ l0  false _ ?side1 ?side2 A10.out).mono ?_); (case side1 => repeat (first | exact (Kd.C_below HR0.out HB.out) | (with_reducible refine Kd.C_alloc ?_ _) | (with_reducible refine Kd.C_drewN ?_ _) | (with_reducible refine Kd.C_drew ?_))); (case side2 => exact HC0.out); rintro e w16 ⟨rfl, hb⟩; refine ⟨_, rfl, ?_⟩; have n0_ := Aside0.mk (blk_below (g := gb312) (o := .cells #[.int .i64 a1] 2 (0, 0)) (by (with_reducible repeat (first | refine blk_drewN ?_ _ | refine blk_drew ?_ | refine blk_alloc ?_ _)); exact BK312.out) hb); have n1_ := Aside0.mk (blk_below (g := gb313) (o := .cells #[.int .i64 a2] 2 (0, 0)) (by (with_reducible repeat (first | refine blk_drewN ?_ _ | refine blk_drew ?_ | refine blk_alloc ?_ _)); exact BK313.out) hb); have n2_ := Aside0.mk (below_step (by repeat (first | (with_reducible first | exact HB.out | apply below_alloc | apply pw_below_drewN | apply below_drew1 | refine below_set ?_ GE312.out | refine below_set ?_ GE313.out) | exact HB.out)) hb); clear BK312; clear BK313; clear HB; have BK312 := n0_; have BK313 := n1_; have HB := n2_; clear n0_ n1_ n2_; (try clear hb); (try clear hb2); (try clear hk); (try clear hi); have hnb17 := NB312_313.out; have hnc17 := NB313_312.out; have hcz18_0 : w16.cell? ⟨gb312, 0, none⟩ = some (.int .i64 a1) := (blk_cell BK312.out 0).trans rfl; have hfz18_0 := blk_frozen BK312.out 0) | (go_at_call 30; (with_reducible refine (rate_May.calls a1 true _ A13.out).mono ?_); rintro e w' ⟨rfl, ⟨nd, rfl⟩⟩; have hcz19_0 : w16.cell? ⟨gb313, 0, none⟩ = some (.int .i64 a2) := (blk_cell BK313.out 0).trans rfl; have hfz19_0 := blk_frozen BK313.out 0) | ((with_reducible refine gate_callee (f := 56) rfl ?_); refine goesL_ (some 24) rfl rfl Try.func56 (by kernel_rfl) rfl #[.slice A0 l0.length c0, .int .i64 0, .func (.func 57) #[] #[.pointer (some ⟨gb313, 0, none⟩), .pointer (some ⟨gb312, 0, none⟩)]] rfl (by (try simp only [List.map_toArray, List.map_cons, List.map_nil]); first | done | rfl | (simp only [List.length_drop, List.length_take]; rfl)) ?_; (with_reducible refine (value_fold_int64_int64__value_times_2.calls k _ _ l0 0 gb313 a2 gb312 a1 t316 t317 _ ?side1 ?side2 ?side3 ?side4 A15.out).mono ?_); (case side1 => repeat (first | exact (Kd.C_below HR0.out (by repeat (first | (with_reducible first | exact HB.out | apply below_alloc | apply pw_below_drewN | apply below_drew1 | refine below_set ?_ GE312.out | refine below_set ?_ GE313.out) | exact HB.out))) | (with_reducible refine Kd.C_alloc ?_ _) | (with_reducible refine Kd.C_drewN ?_ _) | (with_reducible refine Kd.C_drew ?_))); (case side2 => exact HC0.out); (case side3 => (with_reducible repeat (first | refine blk_drewN ?_ _ | refine blk_drew ?_ | refine blk_alloc ?_ _)); exact BK313.out); (case side4 => (with_reducible repeat (first | refine blk_drewN ?_ _ | refine blk_drew ?_ | refine blk_alloc ?_ _)); exact BK312.out); rintro e w20 ⟨v318, rfl, ho0, hb⟩; refine ⟨_, rfl, ?_⟩; have n0_ := Aside0.mk (Kd.R_lower (Kd.R_newB (Kd.R_newB ho0 (g := gb312) (o := .cells #[.int .i64 a1] 2 (0, 0)) (by (with_reducible repeat (first | refine blk_drewN ?_ _ | refine blk_drew ?_ | refine blk_alloc ?_ _)); exact BK312.out)) (g := gb313) (o := .cells #[.int .i64 a2] 2 (0, 0)) (by (with_reducible repeat (first | refine blk_drewN ?_ _ | refine blk_drew ?_ | refine blk_alloc ?_ _)); exact BK313.out)) (below_size (by repeat (first | (with_reducible first | exact HB.out | apply below_alloc | apply pw_below_drewN | apply below_drew1 | refine below_set ?_ GE312.out | refine below_set ?_ GE313.out) | exact HB.out)))); have n1_ := Aside0.mk (blk_below (g := gb312) (o := .cells #[.int .i64 a1] 2 (0, 0)) (by (with_reducible repeat (first | refine blk_drewN ?_ _ | refine blk_drew ?_ | refine blk_alloc ?_ _)); exact BK312.out) hb); have n2_ := Aside0.mk (blk_below (g := gb313) (o := .cells #[.int .i64 a2] 2 (0, 0)) (by (with_reducible repeat (first | refine blk_drewN ?_ _ | refine blk_drew ?_ | refine blk_alloc ?_ _)); exact BK313.out) hb); have n3_ := Aside0.mk (below_step (by repeat (first | (with_reducible first | exact HB.out | apply below_alloc | apply pw_below_drewN | apply below_drew1 | refine below_set ?_ GE312.out | refine below_set ?_ GE313.out) | exact HB.out)) hb); clear BK312; clear BK313; clear HB; have HO319 := n0_; have BK312 := n1_; have BK313 := n2_; have HB := n3_; clear n0_ n1_ n2_ n3_; (try clear hb); (try clear hb2); (try clear hk); (try clear hi); (try clear ho0)))
        go_ret2
        exact ⟨_, by first | rfl | (simp [errW_none, errW_some] <;> rfl) | (simp [*, errW_none, errW_some] <;> rfl), by (with_reducible repeat (first | apply Kd.R_alloc | apply Kd.R_drewN | apply Kd.R_drew)); exact Kd.R_mono HO319.out (fun _ hk => trivial), by repeat (first | (with_reducible first | exact HB.out | apply below_alloc | apply pw_below_drewN | apply below_drew1 | refine below_set ?_ GE312.out | refine below_set ?_ GE313.out) | exact HB.out)⟩
      · replace c14 := Bool.eq_false_iff.mpr c14
        subst c14
        have H1 : (some (([] : List Int), 2)) = some (r1, r2) := by rw [if_neg (show ¬ (false = true) by decide)] at H; exact H
        clear H
        have H := H1
        clear H1
        simp only [Option.some.injEq, Prod.mk.injEq] at H
        obtain ⟨rfl, rfl⟩ := H
        go_wp2_with (first | ((with_reducible refine gate_callee (f := 55) rfl ?_); refine goesL_ (some 16) rfl rfl Try.func55 (by kernel_rfl) rfl #[.slice A0 l0.length c0, .func (.func 53) #[] #[]] rfl (by (try simp only [List.map_toArray, List.map_cons, List.map_nil]); first | done | rfl | (simp only [List.length_drop, List.length_take]; rfl)) ?_; (with_reducible refine (slices_ContainsFunc_int64_int64__value_times_1.calls k _ _ l0  false _ ?side1 ?side2 A10.out).mono ?_); (case side1 => repeat (first | exact (Kd.C_below HR0.out HB.out) | (with_reducible refine Kd.C_alloc ?_ _) | (with_reducible refine Kd.C_drewN ?_ _) | (with_reducible refine Kd.C_drew ?_))); (case side2 => exact HC0.out); rintro e w21 ⟨rfl, hb⟩; refine ⟨_, rfl, ?_⟩; have n0_ := Aside0.mk (blk_below (g := gb312) (o := .cells #[.int .i64 a1] 2 (0, 0)) (by (with_reducible repeat (first | refine blk_drewN ?_ _ | refine blk_drew ?_ | refine blk_alloc ?_ _)); exact BK312.out) hb); have n1_ := Aside0.mk (blk_below (g := gb313) (o := .cells #[.int .i64 a2] 2 (0, 0)) (by (with_reducible repeat (first | refine blk_drewN ?_ _ | refine blk_drew ?_ | refine blk_alloc ?_ _)); exact BK313.out) hb); have n2_ := Aside0.mk (below_step (by repeat (first | (with_reducible first | exact HB.out | apply below_alloc | apply pw_below_drewN | apply below_drew1 | refine below_set ?_ GE312.out | refine below_set ?_ GE313.out) | exact HB.out)) hb); clear BK312; clear BK313; clear HB; have BK312 := n0_; have BK313 := n1_; have HB := n2_; clear n0_ n1_ n2_; (try clear hb); (try clear hb2); (try clear hk); (try clear hi); have hnb22 := NB312_313.out; have hnc22 := NB313_312.out; have hcz23_0 : w21.cell? ⟨gb312, 0, none⟩ = some (.int .i64 a1) := (blk_cell BK312.out 0).trans rfl; have hfz23_0 := blk_frozen BK312.out 0) | (go_at_call 30; (with_reducible refine (rate_May.calls a1 false _ A13.out).mono ?_); rintro e w' ⟨rfl, ⟨nd, rfl⟩⟩))
        go_ret2
        exact ⟨_, by first | rfl | (simp [errW_none, errW_some] <;> rfl) | (simp [*, errW_none, errW_some] <;> rfl), by first | exact Kd.R_nil _ _ _ _ _ | exact Kd.N_nil _ _ _ _ _ | exact Kd.V_nil _ _ _ _ _ | exact Kd.Q_nil _ _ _ _ _ | exact Kd.S_nil _ _ _ _ _, by repeat (first | (with_reducible first | exact HB.out | apply below_alloc | apply pw_below_drewN | apply below_drew1 | refine below_set ?_ GE312.out | refine below_set ?_ GE313.out) | exact HB.out)⟩

end Go.Proofs.Ytalnlphinlfenaa.S
end

section
namespace Go.Proofs.Ytalnlphinlfenaa.S
open Go.RowKit Go.Proofs.YtalnlphinlfenaaW.PrintWords Go.Proofs.YtalnlphinlfenaaW.PrintLast Go.Proofs.YtalnlphinlfenaaW.PrintMore
attribute [local go_sem] max2_int min2_int max_two min_two max_three min_three max_four min_four   -- for this text's walks alone
attribute [local go_sem] Go.Proofs.Ytalnlphinlfenaa.XWalk.cell2
set_option linter.unusedVariables false
set_option linter.unusedSimpArgs false

/-! ### value_now: function 39 -/
def value_now.f (k : Nat) (l0 : List Int) (a1 : Int) (a2 : Int) : Option (Int × Int) := (value_times.f k l0 a1 a2).bind fun bt324 => (if bt324.2 = 0 then (if 0 < (bt324.1.length : Int) then (some (rd bt324.1 0, 0)) else (none)) else (some (0, bt324.2)))
set_option maxHeartbeats 8000000 in
set_option maxRecDepth 100000 in
theorem value_now.calls (k : Nat) (A0 : Option Addr) (c0 : Nat) (l0 : List Int) (a1 : Int) (a2 : Int) (r1 : Int) (r2 : Int) (w : World) (hr0 : Kd.C (Kd.int .i64) w A0 l0.length l0) (hc0 : l0.length ≤ c0) (h : value_now.f k l0 a1 a2 = some (r1, r2)) :
    Calls Try.prog 39 #[.slice A0 l0.length c0, .int .i64 a1, .int .i64 a2] w fun e w' => e = .returned (.tuple #[.int .i64 r1, .int .i64 r2]) ∧ Below w.heap.size w w' := by
  have HR0 := Aside0.mk hr0
  have HC0 := Aside0.mk hc0
  clear hr0 hc0
  have HB := Aside0.mk (Below.refl w.heap.size w)
  have H : ((value_times.f k l0 a1 a2).bind fun bt324 => (if bt324.2 = 0 then (if 0 < (bt324.1.length : Int) then (some (rd bt324.1 0, 0)) else (none)) else (some (0, bt324.2)))) = some (r1, r2) := h
  clear h
  replace H := Option.bind_eq_some_iff.mp H
  obtain ⟨⟨t324, t325⟩, A40, H⟩ := H
  replace H : (if t325 = 0 then (if 0 < (t324.length : Int) then (some (rd t324 0, 0)) else (none)) else (some (0, t325))) = some (r1, r2) := H
  have A4 := Aside0.mk A40
  clear A40
  by_cases c5 : t325 = 0
  · rw [if_pos c5] at H
    have c5b0 : (t325 == 0) = true := beq_iff_eq.mpr c5
    have c5b1 : (t325 != 0) = false := bne_eq_false_iff_eq.mpr c5
    clear c5
    by_cases c6 : 0 < (t324.length : Int)
    · rw [if_pos c6] at H
      have c6b0 : decide (0 < (t324.length : Int)) = true := decide_eq_true c6
      have c6b1 : decide (0 < t324.length) = true := decide_eq_true (by omega)
      clear c6
      simp only [Option.some.injEq, Prod.mk.injEq] at H
      obtain ⟨rfl, rfl⟩ := H
      go_enter Try.func39, Try.ntmps39
      go_wp2_with (first | ((with_reducible refine gate_callee (f := 38) rfl ?_); refine goesL_ (some 14) rfl rfl Try.func38 (by kernel_rfl) rfl #[.slice A0 l0.length c0, .int .i64 a1, .int .i64 a2] rfl (by (try simp only [List.map_toArray, List.map_cons, List.map_nil]); first | done | rfl | (simp only [List.length_drop, List.length_take]; rfl)) ?_; (with_reducible refine (value_times.calls k _ _ l0 a1 a2 t324 t325 _ ?side1 ?side2 A4.out).mono ?_); (case side1 => repeat (first | exact HR0.out | (with_reducible refine Kd.C_alloc ?_ _) | (with_reducible refine Kd.C_drewN ?_ _) | (with_reducible refine Kd.C_drew ?_))); (case side2 => exact HC0.out); rintro e w7 ⟨v326, rfl, ho0, hb⟩; refine ⟨_, rfl, ?_⟩; have n0_ := Aside0.mk (Kd.R_lower ho0 (below_size (by repeat (first | (with_reducible first | exact HB.out | apply below_alloc | apply pw_below_drewN | apply below_drew1) | exact HB.out)))); have n1_ := Aside0.mk (below_step (by repeat (first | (with_reducible first | exact HB.out | apply below_alloc | apply pw_below_drewN | apply below_drew1) | exact HB.out)) hb); clear HB; have HO327 := n0_; have HB := n1_; clear n0_ n1_; (try clear hb); (try clear hb2); (try clear hk); (try clear hi); (try clear ho0); obtain ⟨Ao8, co8, eo8⟩ := Kd.R_slice HO327.out; subst eo8; have p328 : 0 ≤ (0 : Int) := (by omega); have q328 : 0 < (t324.length : Int) := of_decide_eq_true (by first | (with_reducible assumption) | assumption); obtain ⟨ad328, e328, hx328_0⟩ := Kd.at_int (Kd.R_reads' HO327.out).2.2 0 p328 q328; cases e328; have qi328 : (0 < t324.length) = True := eq_true (by omega); (try rw [show ((0 : Int)).toNat = 0 from rfl] at hx328_0); (try rw [Addr.add_zero'] at hx328_0); replace p328 := eq_true p328; replace q328 := eq_true q328))
      go_ret2
      exact ⟨by first | rfl | (simp [errW_none, errW_some] <;> rfl) | (simp [*, errW_none, errW_some] <;> rfl), by repeat (first | (with_reducible first | exact HB.out | apply below_alloc | apply pw_below_drewN | apply below_drew1) | exact HB.out)⟩
    · rw [if_neg c6] at H
      exact absurd H (by simp)
  · rw [if_neg c5] at H
    have c5b0 : (t325 == 0) = false := beq_eq_false_iff_ne.mpr c5
    have c5b1 : (t325 != 0) = true := bne_iff_ne.mpr c5
    simp only [Option.some.injEq, Prod.mk.injEq] at H
    obtain ⟨rfl, rfl⟩ := H
    go_enter Try.func39, Try.ntmps39
    go_wp2_with (first | ((with_reducible refine gate_callee (f := 38) rfl ?_); refine goesL_ (some 14) rfl rfl Try.func38 (by kernel_rfl) rfl #[.slice A0 l0.length c0, .int .i64 a1, .int .i64 a2] rfl (by (try simp only [List.map_toArray, List.map_cons, List.map_nil]); first | done | rfl | (simp only [List.length_drop, List.length_take]; rfl)) ?_; (with_reducible refine (value_times.calls k _ _ l0 a1 a2 t324 t325 _ ?side1 ?side2 A4.out).mono ?_); (case side1 => repeat (first | exact HR0.out | (with_reducible refine Kd.C_alloc ?_ _) | (with_reducible refine Kd.C_drewN ?_ _) | (with_reducible refine Kd.C_drew ?_))); (case side2 => exact HC0.out); rintro e w9 ⟨v326, rfl, ho0, hb⟩; refine ⟨_, rfl, ?_⟩; have n0_ := Aside0.mk (Kd.R_lower ho0 (below_size (by repeat (first | (with_reducible first | exact HB.out | apply below_alloc | apply pw_below_drewN | apply below_drew1) | exact HB.out)))); have n1_ := Aside0.mk (below_step (by repeat (first | (with_reducible first | exact HB.out | apply below_alloc | apply pw_below_drewN | apply below_drew1) | exact HB.out)) hb); clear HB; have HO327 := n0_; have HB := n1_; clear n0_ n1_; (try clear hb); (try clear hb2); (try clear hk); (try clear hi); (try clear ho0)))
    go_ret2
    exact ⟨by first | rfl | (simp [errW_none, errW_some] <;> rfl) | (simp [*, errW_none, errW_some] <;> rfl), by repeat (first | (with_reducible first | exact HB.out | apply below_alloc | apply pw_below_drewN | apply below_drew1) | exact HB.out)⟩

end Go.Proofs.Ytalnlphinlfenaa.S
end

section
namespace Go.Proofs.Ytalnlphinlfenaa.S
open Go.RowKit Go.Proofs.YtalnlphinlfenaaW.PrintWords Go.Proofs.YtalnlphinlfenaaW.PrintLast Go.Proofs.YtalnlphinlfenaaW.PrintMore
attribute [local go_sem] max2_int min2_int max_two min_two max_three min_three max_four min_four   -- for this text's walks alone
attribute [local go_sem] Go.Proofs.Ytalnlphinlfenaa.XWalk.cell2
set_option linter.unusedVariables false
set_option linter.unusedSimpArgs false

/-! ### value_Of: function 18 -/
def value_Of.f (k : Nat) (l0 : List Int) (a1 : Int) : Option (Int × Int) := (value_now.f k l0 a1 1).bind fun bt329 => (some (bt329.1, bt329.2))
set_option maxHeartbeats 8000000 in
set_option maxRecDepth 100000 in
theorem value_Of.calls (k : Nat) (A0 : Option Addr) (c0 : Nat) (l0 : List Int) (a1 : Int) (r1 : Int) (r2 : Int) (w : World) (hr0 : Kd.C (Kd.int .i64) w A0 l0.length l0) (hc0 : l0.length ≤ c0) (h : value_Of.f k l0 a1 = some (r1, r2)) :
    Calls Try.prog 18 #[.slice A0 l0.length c0, .int .i64 a1] w fun e w' => e = .returned (.tuple #[.int .i64 r1, .int .i64 r2]) ∧ Below w.heap.size w w' := by
  have HR0 := Aside0.mk hr0
  have HC0 := Aside0.mk hc0
  clear hr0 hc0
  have HB := Aside0.mk (Below.refl w.heap.size w)
  have H : ((value_now.f k l0 a1 1).bind fun bt329 => (some (bt329.1, bt329.2))) = some (r1, r2) := h
  clear h
  replace H := Option.bind_eq_some_iff.mp H
  obtain ⟨⟨t329, t330⟩, A30, H⟩ := H
  replace H : (some (t329, t330)) = some (r1, r2) := H
  have A3 := Aside0.mk A30
  clear A30
  simp only [Option.some.injEq, Prod.mk.injEq] at H
  obtain ⟨rfl, rfl⟩ := H
  go_enter Try.func18, Try.ntmps18
  go_wp2_with (first | ((with_reducible refine gate_callee (f := 39) rfl ?_); refine goesL_ (some 8) rfl rfl Try.func39 (by kernel_rfl) rfl #[.slice A0 l0.length c0, .int .i64 a1, .int .i64 1] rfl (by (try simp only [List.map_toArray, List.map_cons, List.map_nil]); first | done | rfl | (simp only [List.length_drop, List.length_take]; rfl)) ?_; (with_reducible refine (value_now.calls k _ _ l0 a1 1 t329 t330 _ ?side1 ?side2 A3.out).mono ?_); (case side1 => repeat (first | exact HR0.out | (with_reducible refine Kd.C_alloc ?_ _) | (with_reducible refine Kd.C_drewN ?_ _) | (with_reducible refine Kd.C_drew ?_))); (case side2 => exact HC0.out); rintro e w4 ⟨rfl, hb⟩; refine ⟨_, rfl, ?_⟩; have n0_ := Aside0.mk (below_step (by repeat (first | (with_reducible first | exact HB.out | apply below_alloc | apply pw_below_drewN | apply below_drew1) | exact HB.out)) hb); clear HB; have HB := n0_; clear n0_; (try clear hb); (try clear hb2); (try clear hk); (try clear hi)))
  go_ret2
  exact ⟨by first | rfl | (simp [errW_none, errW_some] <;> rfl) | (simp [*, errW_none, errW_some] <;> rfl), by repeat (first | (with_reducible first | exact HB.out | apply below_alloc | apply pw_below_drewN | apply below_drew1) | exact HB.out)⟩

end Go.Proofs.Ytalnlphinlfenaa.S
end

section
namespace Go.Proofs.Ytalnlphinlfenaa.S
open Go.RowKit Go.Proofs.YtalnlphinlfenaaW.PrintWords Go.Proofs.YtalnlphinlfenaaW.PrintLast Go.Proofs.YtalnlphinlfenaaW.PrintMore
attribute [local go_sem] max2_int min2_int max_two min_two max_three min_three max_four min_four   -- for this text's walks alone
attribute [local go_sem] Go.Proofs.Ytalnlphinlfenaa.XWalk.cell2
set_option linter.unusedVariables false
set_option linter.unusedSimpArgs false

/-! ### value_All: function 17 -/
def value_All.f (k : Nat) (l0 : List Int) (a1 : Int) : Option (List Int × Int) := (value_times.f k l0 a1 1).bind fun bt320 => (some (bt320.1, bt320.2))
set_option maxHeartbeats 8000000 in
set_option maxRecDepth 100000 in
theorem value_All.calls (k : Nat) (A0 : Option Addr) (c0 : Nat) (l0 : List Int) (a1 : Int) (r1 : List Int) (r2 : Int) (w : World) (hr0 : Kd.C (Kd.int .i64) w A0 l0.length l0) (hc0 : l0.length ≤ c0) (h : value_All.f k l0 a1 = some (r1, r2)) :
    Calls Try.prog 17 #[.slice A0 l0.length c0, .int .i64 a1] w fun e w' => ∃ v0_ : Value, e = .returned (.tuple #[v0_, .int .i64 r2]) ∧ Kd.R (Kd.int .i64) 2 w' w.heap.size (fun _ => True) v0_ r1 ∧ Below w.heap.size w w' := by
  have HR0 := Aside0.mk hr0
  have HC0 := Aside0.mk hc0
  clear hr0 hc0
  have HB := Aside0.mk (Below.refl w.heap.size w)
  have H : ((value_times.f k l0 a1 1).bind fun bt320 => (some (bt320.1, bt320.2))) = some (r1, r2) := h
  clear h
  replace H := Option.bind_eq_some_iff.mp H
  obtain ⟨⟨t320, t321⟩, A30, H⟩ := H
  replace H : (some (t320, t321)) = some (r1, r2) := H
  have A3 := Aside0.mk A30
  clear A30
  simp only [Option.some.injEq, Prod.mk.injEq] at H
  obtain ⟨rfl, rfl⟩ := H
  go_enter Try.func17, Try.ntmps17
  go_wp2_with (first | ((with_reducible refine gate_callee (f := 38) rfl ?_); refine goesL_ (some 8) rfl rfl Try.func38 (by kernel_rfl) rfl #[.slice A0 l0.length c0, .int .i64 a1, .int .i64 1] rfl (by (try simp only [List.map_toArray, List.map_cons, List.map_nil]); first | done | rfl | (simp only [List.length_drop, List.length_take]; rfl)) ?_; (with_reducible refine (value_times.calls k _ _ l0 a1 1 t320 t321 _ ?side1 ?side2 A3.out).mono ?_); (case side1 => repeat (first | exact HR0.out | (with_reducible refine Kd.C_alloc ?_ _) | (with_reducible refine Kd.C_drewN ?_ _) | (with_reducible refine Kd.C_drew ?_))); (case side2 => exact HC0.out); rintro e w4 ⟨v322, rfl, ho0, hb⟩; refine ⟨_, rfl, ?_⟩; have n0_ := Aside0.mk (Kd.R_lower ho0 (below_size (by repeat (first | (with_reducible first | exact HB.out | apply below_alloc | apply pw_below_drewN | apply below_drew1) | exact HB.out)))); have n1_ := Aside0.mk (below_step (by repeat (first | (with_reducible first | exact HB.out | apply below_alloc | apply pw_below_drewN | apply below_drew1) | exact HB.out)) hb); clear HB; have HO323 := n0_; have HB := n1_; clear n0_ n1_; (try clear hb); (try clear hb2); (try clear hk); (try clear hi); (try clear ho0)))
  go_ret2
  exact ⟨_, by first | rfl | (simp [errW_none, errW_some] <;> rfl) | (simp [*, errW_none, errW_some] <;> rfl), by (with_reducible repeat (first | apply Kd.R_alloc | apply Kd.R_drewN | apply Kd.R_drew)); exact HO323.out, by repeat (first | (with_reducible first | exact HB.out | apply below_alloc | apply pw_below_drewN | apply below_drew1) | exact HB.out)⟩

end Go.Proofs.Ytalnlphinlfenaa.S
end

section
namespace Go.Proofs.Ytalnlphinlfenaa.S
open Go.RowKit Go.Proofs.YtalnlphinlfenaaW.PrintWords Go.Proofs.YtalnlphinlfenaaW.PrintLast Go.Proofs.YtalnlphinlfenaaW.PrintMore
attribute [local go_sem] max2_int min2_int max_two min_two max_three min_three max_four min_four   -- for this text's walks alone
attribute [local go_sem] Go.Proofs.Ytalnlphinlfenaa.XWalk.cell2
set_option linter.unusedVariables false
set_option linter.unusedSimpArgs false

/-! ### lombardref01_Same: function 37 -/
def lombardref01_Same.l0 : Nat → List Int → List Int → Int → Int → Option (Bool)
  | 0, _, _, _, _ => none
  | k + 1, x0, x1, x12, x13 => if x13 < x12 then (if 0 ≤ x13 then (if x13 < (x0.length : Int) then (if x13 < (x1.length : Int) then (if (rd x0 x13) = (rd x1 x13) then (lombardref01_Same.l0 k x0 x1 x12 (wrap64 (x13 + 1))) else (some false)) else (none)) else (none)) else (none)) else (some true)
def lombardref01_Same.f (k : Nat) (l0 : List Int) (l1 : List Int) : Option (Bool) := if (l0.length : Int) = (l1.length : Int) then (lombardref01_Same.l0 k l0 l1 (l0.length : Int) 0) else (some false)
set_option maxHeartbeats 8000000 in
set_option maxRecDepth 100000 in
theorem lombardref01_Same.calls (k : Nat) (A0 : Option Addr) (c0 : Nat) (l0 : List Int) (A1 : Option Addr) (c1 : Nat) (l1 : List Int) (r : Bool) (w : World) (hr0 : Kd.C (Kd.int .i64) w A0 l0.length l0) (hc0 : l0.length ≤ c0) (hr1 : Kd.C (Kd.int .i64) w A1 l1.length l1) (hc1 : l1.length ≤ c1) (h : lombardref01_Same.f k l0 l1 = some r) :
    Calls Try.prog 37 #[.slice A0 l0.length c0, .slice A1 l1.length c1] w fun e w' => e = .returned (.bool r) ∧ Drawn0 w w' := by
  have HR0 := Aside0.mk hr0
  have HC0 := Aside0.mk hc0
  clear hr0 hc0
  have HR1 := Aside0.mk hr1
  have HC1 := Aside0.mk hc1
  clear hr1 hc1
  have H : (if (l0.length : Int) = (l1.length : Int) then (lombardref01_Same.l0 k l0 l1 (l0.length : Int) 0) else (some false)) = some r := h
  clear h
  by_cases c3 : (l0.length : Int) = (l1.length : Int)
  · rw [if_pos c3] at H
    have c3b0 : ((l0.length : Int) == (l1.length : Int)) = true := beq_iff_eq.mpr c3
    have c3b1 : ((l0.length : Int) != (l1.length : Int)) = false := bne_eq_false_iff_eq.mpr c3
    have c3b2 : (l0.length == l1.length) = true := by first | simpa using c3 | (simp at c3 ⊢; omega)
    clear c3
    have H' := Aside0.mk H
    clear H
    go_enter Try.func37, Try.ntmps37
    go_wp2
    repeat (go_quiet (fail); try go_wp2)
    go_loopg [13] k (fun kq v13 w' => ∃ (x13_1 : Int), v13 = .int .i64 x13_1 ∧ Aside0 (lombardref01_Same.l0 kq l0 l1 (l0.length : Int) x13_1 = some r) ∧ Aside0 (kq ≤ k) ∧ Drawn0 w w')
    case atStart => exact ⟨(0), (by first | rfl | (simp; done) | (simp [*]; done)), H', ⟨Nat.le_refl _⟩, by repeat (first | exact Drawn0.refl _ | apply Drawn0.step)⟩
    case round =>
      clear H'
      try clear c1
      try clear p2
      try clear c3
      try clear c3b0
      try clear c3b1
      try clear c3b2
      obtain ⟨x13_1, rfl, HA, HK1, ⟨m1, rfl⟩⟩ := hrel
      cases gk with
      | zero => exact absurd HA.out (by simp [lombardref01_Same.l0])
      | succ k1 =>
        have H := HA.out
        clear HA
        simp only [lombardref01_Same.l0] at H
        by_cases c4 : x13_1 < (l0.length : Int)
        · rw [if_pos c4] at H
          have c4b0 : decide (x13_1 < (l0.length : Int)) = true := decide_eq_true c4
          clear c4
          by_cases c5 : 0 ≤ x13_1
          · rw [if_pos c5] at H
            have c5b0 : decide (0 ≤ x13_1) = true := decide_eq_true c5
            clear c5
            by_cases c6 : x13_1 < (l0.length : Int)
            · rw [if_pos c6] at H
              have c6b0 : decide (x13_1 < (l0.length : Int)) = true := decide_eq_true c6
              clear c6
              by_cases c7 : x13_1 < (l1.length : Int)
              · rw [if_pos c7] at H
                have c7b0 : decide (x13_1 < (l1.length : Int)) = true := decide_eq_true c7
                clear c7
                by_cases c8 : (rd l0 x13_1) = (rd l1 x13_1)
                · rw [if_pos c8] at H
                  have c8b0 : ((rd l0 x13_1) == (rd l1 x13_1)) = true := beq_iff_eq.mpr c8
                  have c8b1 : ((rd l0 x13_1) != (rd l1 x13_1)) = false := bne_eq_false_iff_eq.mpr c8
                  clear c8
                  have H' := Aside0.mk H
                  clear H
                  have p331 : 0 ≤ (x13_1 : Int) := of_decide_eq_true (by first | (with_reducible assumption) | assumption)
                  have q331 : x13_1 < (l0.length : Int) := of_decide_eq_true (by first | (with_reducible assumption) | assumption)
                  obtain ⟨ad331, e331, hx331_0⟩ := Kd.at_int HR0.out x13_1 p331 q331
                  cases e331
                  replace p331 := eq_true p331
                  replace q331 := eq_true q331
                  have p332 : 0 ≤ (x13_1 : Int) := of_decide_eq_true (by first | (with_reducible assumption) | assumption)
                  have q332 : x13_1 < (l1.length : Int) := of_decide_eq_true (by first | (with_reducible assumption) | assumption)
                  obtain ⟨ad332, e332, hx332_0⟩ := Kd.at_int HR1.out x13_1 p332 q332
                  cases e332
                  replace p332 := eq_true p332
                  replace q332 := eq_true q332
                  go_wp2
                  repeat (go_quiet (fail); try go_wp2)
                  go_roundg k1
                  case measure => have := HK1.out; omega
                  case rel => exact ⟨(wrap64 (x13_1 + 1)), (by first | rfl | (simp; done) | (simp [*]; done)), H', ⟨by have := HK1.out; omega⟩, by repeat (first | exact Drawn0.refl _ | apply Drawn0.step)⟩
                · rw [if_neg c8] at H
                  have c8b0 : ((rd l0 x13_1) == (rd l1 x13_1)) = false := beq_eq_false_iff_ne.mpr c8
                  have c8b1 : ((rd l0 x13_1) != (rd l1 x13_1)) = true := bne_iff_ne.mpr c8
                  obtain rfl := Option.some.inj H
                  have p331 : 0 ≤ (x13_1 : Int) := of_decide_eq_true (by first | (with_reducible assumption) | assumption)
                  have q331 : x13_1 < (l0.length : Int) := of_decide_eq_true (by first | (with_reducible assumption) | assumption)
                  obtain ⟨ad331, e331, hx331_0⟩ := Kd.at_int HR0.out x13_1 p331 q331
                  cases e331
                  replace p331 := eq_true p331
                  replace q331 := eq_true q331
                  have p332 : 0 ≤ (x13_1 : Int) := of_decide_eq_true (by first | (with_reducible assumption) | assumption)
                  have q332 : x13_1 < (l1.length : Int) := of_decide_eq_true (by first | (with_reducible assumption) | assumption)
                  obtain ⟨ad332, e332, hx332_0⟩ := Kd.at_int HR1.out x13_1 p332 q332
                  cases e332
                  replace p332 := eq_true p332
                  replace q332 := eq_true q332
                  go_wp2
                  repeat (go_quiet (fail); try go_wp2)
                  go_ret
                  exact ⟨by first | rfl | (simp; done) | (simp [*]; done), by repeat (first | exact Drawn0.refl _ | apply Drawn0.step)⟩
              · rw [if_neg c7] at H
                exact absurd H (by simp)
            · rw [if_neg c6] at H
              exact absurd H (by simp)
          · rw [if_neg c5] at H
            exact absurd H (by simp)
        · rw [if_neg c4] at H
          have c4b0 : decide (x13_1 < (l0.length : Int)) = false := decide_eq_false c4
          clear c4
          obtain rfl := Option.some.inj H
          go_wp2
          repeat (go_quiet (fail); try go_wp2)
          go_ret
          exact ⟨by first | rfl | (simp; done) | (simp [*]; done), by repeat (first | exact Drawn0.refl _ | apply Drawn0.step)⟩
  · rw [if_neg c3] at H
    have c3b0 : ((l0.length : Int) == (l1.length : Int)) = false := beq_eq_false_iff_ne.mpr c3
    have c3b1 : ((l0.length : Int) != (l1.length : Int)) = true := bne_iff_ne.mpr c3
    have c3b2 : (l0.length == l1.length) = false := by first | simpa using c3 | (simp at c3 ⊢; omega)
    obtain rfl := Option.some.inj H
    go_enter Try.func37, Try.ntmps37
    go_wp2
    repeat (go_quiet (fail); try go_wp2)
    go_ret
    exact ⟨by first | rfl | (simp; done) | (simp [*]; done), by repeat (first | exact Drawn0.refl _ | apply Drawn0.step)⟩

end Go.Proofs.Ytalnlphinlfenaa.S
end

section
namespace Go.Proofs.Ytalnlphinlfenaa.S
open Go.RowKit Go.Proofs.YtalnlphinlfenaaW.PrintWords Go.Proofs.YtalnlphinlfenaaW.PrintLast Go.Proofs.YtalnlphinlfenaaW.PrintMore
attribute [local go_sem] max2_int min2_int max_two min_two max_three min_three max_four min_four   -- for this text's walks alone
attribute [local go_sem] Go.Proofs.Ytalnlphinlfenaa.XWalk.cell2
set_option linter.unusedVariables false
set_option linter.unusedSimpArgs false

/-! ### lombardlaw09_alive: function 16 -/
def lombardlaw09_alive.f (k : Nat)  : Option (Bool) := (value_Of.f k (([105] : List Int)) 50000000000).bind fun bt336 => ((value_All.f k (([10, 110] : List Int)) 100000000000).bind fun bt341 => (if bt336.1 = 100 then (if bt336.2 = 0 then (if bt341.2 = 0 then ((lombardref01_Same.f k bt341.1 (([100, 100, 0] : List Int))).bind fun t348 => (some t348)) else (some false)) else (some false)) else (some false)))
set_option maxHeartbeats 8000000 in
set_option maxRecDepth 100000 in
theorem lombardlaw09_alive.calls (k : Nat)  (r : Bool) (w : World) (h : lombardlaw09_alive.f k  = some r) :
    Calls Try.prog 16 #[] w fun e w' => e = .returned (.bool r) ∧ Below w.heap.size w w' := by
  have HB := Aside0.mk (Below.refl w.heap.size w)
  have H : ((value_Of.f k (([105] : List Int)) 50000000000).bind fun bt336 => ((value_All.f k (([10, 110] : List Int)) 100000000000).bind fun bt341 => (if bt336.1 = 100 then (if bt336.2 = 0 then (if bt341.2 = 0 then ((lombardref01_Same.f k bt341.1 (([100, 100, 0] : List Int))).bind fun t348 => (some t348)) else (some false)) else (some false)) else (some false)))) = some r := h
  clear h
  obtain ⟨y333, hy333⟩ : ∃ y_ : List Int, y_ = (([105] : List Int)) := ⟨_, rfl⟩
  replace H : ((value_Of.f k y333 50000000000).bind fun bt336 => ((value_All.f k (([10, 110] : List Int)) 100000000000).bind fun bt341 => (if bt336.1 = 100 then (if bt336.2 = 0 then (if bt341.2 = 0 then ((lombardref01_Same.f k bt341.1 (([100, 100, 0] : List Int))).bind fun t348 => (some t348)) else (some false)) else (some false)) else (some false)))) = some r := by first | (rw [hy333]; with_reducible exact H) | (have H2_ := (Option.bind_some _ _).symm.trans H; rw [hy333]; with_reducible exact H2_) | (have H2_ := (Option.bind_some _ _).symm.trans H; with_reducible exact H2_) | with_reducible exact H | (rw [hy333]; exact H) | exact H
  have Ny333 := Aside0.mk hy333
  clear hy333
  replace H := Option.bind_eq_some_iff.mp H
  obtain ⟨⟨t336, t337⟩, A10, H⟩ := H
  replace H : ((value_All.f k (([10, 110] : List Int)) 100000000000).bind fun bt341 => (if t336 = 100 then (if t337 = 0 then (if bt341.2 = 0 then ((lombardref01_Same.f k bt341.1 (([100, 100, 0] : List Int))).bind fun t348 => (some t348)) else (some false)) else (some false)) else (some false))) = some r := H
  have A1 := Aside0.mk A10
  clear A10
  obtain ⟨y338, hy338⟩ : ∃ y_ : List Int, y_ = (([10, 110] : List Int)) := ⟨_, rfl⟩
  replace H : ((value_All.f k y338 100000000000).bind fun bt341 => (if t336 = 100 then (if t337 = 0 then (if bt341.2 = 0 then ((lombardref01_Same.f k bt341.1 (([100, 100, 0] : List Int))).bind fun t348 => (some t348)) else (some false)) else (some false)) else (some false))) = some r := by first | (rw [hy338]; with_reducible exact H) | (have H2_ := (Option.bind_some _ _).symm.trans H; rw [hy338]; with_reducible exact H2_) | (have H2_ := (Option.bind_some _ _).symm.trans H; with_reducible exact H2_) | with_reducible exact H | (rw [hy338]; exact H) | exact H
  have Ny338 := Aside0.mk hy338
  clear hy338
  replace H := Option.bind_eq_some_iff.mp H
  obtain ⟨⟨t341, t342⟩, A20, H⟩ := H
  replace H : (if t336 = 100 then (if t337 = 0 then (if t342 = 0 then ((lombardref01_Same.f k t341 (([100, 100, 0] : List Int))).bind fun t348 => (some t348)) else (some false)) else (some false)) else (some false)) = some r := H
  have A2 := Aside0.mk A20
  clear A20
  have HC3 := Aside0.mk H
  clear H
  go_enter Try.func16, Try.ntmps16
  go_upto_region 3 with (first | ((with_reducible refine gate_dst (N := 6) rfl ?_); (try (refine gate_guard (by rfl) ?_; dsimp only)); refine Kd.R_lit (Kd.int .i64) _ 2 ?hg (N := 6) ?hd (xs := ([105] : List Int)) (inner := [.int .i64 105]) (ok := fun _ => True) (okp := fun _ => True) ?hr ?hp (fun _ hk => hk) trivial (Below.refl _ _) (Nat.le_refl _) (by simp) ?_; (case hd => rfl); (case hg => rfl); (case hr => first | (go_simp; done) | (go_simp; rfl)); (case hp => exact (Reps.one (show Kd.M (Kd.int .i64) _ _ _ 105 [.int .i64 105] from rfl) (Reps.none _ _))); intro v334 w4 ho5 hb hg_ hnew_; clear hg_ hnew_; (first | rw [← Ny333.out] at ho5 | (simp only [Int.reduceToNat] at ho5; rw [← Ny333.out] at ho5)); have n0_ := Aside0.mk (Kd.R_lower ho5 (below_size (by repeat (first | (with_reducible first | exact HB.out | apply below_alloc | apply pw_below_drewN | apply below_drew1) | exact HB.out)))); have n1_ := Aside0.mk (below_step (by repeat (first | (with_reducible first | exact HB.out | apply below_alloc | apply pw_below_drewN | apply below_drew1) | exact HB.out)) hb); clear HB; have HO335 := n0_; have HB := n1_; clear n0_ n1_; clear hb ho5; obtain ⟨Ao6, co6, eo6⟩ := Kd.R_slice HO335.out; subst eo6) | ((with_reducible refine gate_callee (f := 18) rfl ?_); refine goesL_ (some 7) rfl rfl Try.func18 (by kernel_rfl) rfl #[.slice Ao6 y333.length co6, .int .i64 50000000000] rfl (by (try simp only [List.map_toArray, List.map_cons, List.map_nil]); first | done | rfl | (simp only [List.length_drop, List.length_take]; rfl)) ?_; (with_reducible refine (value_Of.calls k _ _ y333 50000000000 t336 t337 _ ?side1 ?side2 A1.out).mono ?_); (case side1 => repeat (first | exact (Kd.R_reads' HO335.out).2.2 | (with_reducible refine Kd.C_alloc ?_ _) | (with_reducible refine Kd.C_drewN ?_ _) | (with_reducible refine Kd.C_drew ?_))); (case side2 => exact (Kd.R_reads' HO335.out).2.1); rintro e w7 ⟨rfl, hb⟩; refine ⟨_, rfl, ?_⟩; have n0_ := Aside0.mk (Kd.R_below (by (with_reducible repeat (first | apply Kd.R_alloc | apply Kd.R_drewN | apply Kd.R_drew)); exact HO335.out) hb); have n1_ := Aside0.mk (below_step (by repeat (first | (with_reducible first | exact HB.out | apply below_alloc | apply pw_below_drewN | apply below_drew1) | exact HB.out)) hb); clear HO335; clear HB; have HO335 := n0_; have HB := n1_; clear n0_ n1_; (try clear hb); (try clear hb2); (try clear hk); (try clear hi)) | ((with_reducible refine gate_dst (N := 11) rfl ?_); (try (refine gate_guard (by rfl) ?_; dsimp only)); refine Kd.R_lit (Kd.int .i64) _ 2 ?hg (N := 11) ?hd (xs := ([10, 110] : List Int)) (inner := [.int .i64 10, .int .i64 110]) (ok := fun _ => True) (okp := fun _ => True) ?hr ?hp (fun _ hk => hk) trivial (Below.refl _ _) (Nat.le_refl _) (by simp) ?_; (case hd => rfl); (case hg => rfl); (case hr => first | (go_simp; done) | (go_simp; rfl)); (case hp => exact (Reps.one (show Kd.M (Kd.int .i64) _ _ _ 10 [.int .i64 10] from rfl) (Reps.one (show Kd.M (Kd.int .i64) _ _ _ 110 [.int .i64 110] from rfl) (Reps.none _ _)))); intro v339 w8 ho9 hb hg_ hnew_; clear hg_ hnew_; (first | rw [← Ny338.out] at ho9 | (simp only [Int.reduceToNat] at ho9; rw [← Ny338.out] at ho9)); have n0_ := Aside0.mk (Kd.R_elder' (by (with_reducible repeat (first | apply Kd.R_alloc | apply Kd.R_drewN | apply Kd.R_drew)); exact HO335.out) (Kd.R_base ho9) hb); have n1_ := Aside0.mk (Kd.R_lower (Kd.R_new' ho9 (Kd.R_lt (by (with_reducible repeat (first | apply Kd.R_alloc | apply Kd.R_drewN | apply Kd.R_drew)); exact HO335.out))) (below_size (by repeat (first | (with_reducible first | exact HB.out | apply below_alloc | apply pw_below_drewN | apply below_drew1) | exact HB.out)))); have n2_ := Aside0.mk (below_step (by repeat (first | (with_reducible first | exact HB.out | apply below_alloc | apply pw_below_drewN | apply below_drew1) | exact HB.out)) hb); clear HO335; clear HB; have HO335 := n0_; have HO340 := n1_; have HB := n2_; clear n0_ n1_ n2_; clear hb ho9; obtain ⟨Ao10, co10, eo10⟩ := Kd.R_slice HO340.out; subst eo10) | ((with_reducible refine gate_callee (f := 17) rfl ?_); refine goesL_ (some 12) rfl rfl Try.func17 (by kernel_rfl) rfl #[.slice Ao10 y338.length co10, .int .i64 100000000000] rfl (by (try simp only [List.map_toArray, List.map_cons, List.map_nil]); first | done | rfl | (simp only [List.length_drop, List.length_take]; rfl)) ?_; (with_reducible refine (value_All.calls k _ _ y338 100000000000 t341 t342 _ ?side1 ?side2 A2.out).mono ?_); (case side1 => repeat (first | exact (Kd.R_reads' HO340.out).2.2 | (with_reducible refine Kd.C_alloc ?_ _) | (with_reducible refine Kd.C_drewN ?_ _) | (with_reducible refine Kd.C_drew ?_))); (case side2 => exact (Kd.R_reads' HO340.out).2.1); rintro e w11 ⟨v343, rfl, ho0, hb⟩; refine ⟨_, rfl, ?_⟩; have n0_ := Aside0.mk (Kd.R_elder' (by (with_reducible repeat (first | apply Kd.R_alloc | apply Kd.R_drewN | apply Kd.R_drew)); exact HO335.out) (Kd.R_base ho0) hb); have n1_ := Aside0.mk (Kd.R_elder' (by (with_reducible repeat (first | apply Kd.R_alloc | apply Kd.R_drewN | apply Kd.R_drew)); exact HO340.out) (Kd.R_base ho0) hb); have n2_ := Aside0.mk (Kd.R_lower (Kd.R_new' (Kd.R_new' ho0 (Kd.R_lt (by (with_reducible repeat (first | apply Kd.R_alloc | apply Kd.R_drewN | apply Kd.R_drew)); exact HO335.out))) (Kd.R_lt (by (with_reducible repeat (first | apply Kd.R_alloc | apply Kd.R_drewN | apply Kd.R_drew)); exact HO340.out))) (below_size (by repeat (first | (with_reducible first | exact HB.out | apply below_alloc | apply pw_below_drewN | apply below_drew1) | exact HB.out)))); have n3_ := Aside0.mk (below_step (by repeat (first | (with_reducible first | exact HB.out | apply below_alloc | apply pw_below_drewN | apply below_drew1) | exact HB.out)) hb); clear HO335; clear HO340; clear HB; have HO335 := n0_; have HO340 := n1_; have HO344 := n2_; have HB := n3_; clear n0_ n1_ n2_ n3_; (try clear hb); (try clear hb2); (try clear hk); (try clear hi); (try clear ho0)))
  have H := HC3.out
  clear HC3
  by_cases c12 : t336 = 100
  · rw [if_pos c12] at H
    have c12b0 : (t336 == 100) = true := beq_iff_eq.mpr c12
    have c12b1 : (t336 != 100) = false := bne_eq_false_iff_eq.mpr c12
    clear c12
    by_cases c13 : t337 = 0
    · rw [if_pos c13] at H
      have c13b0 : (t337 == 0) = true := beq_iff_eq.mpr c13
      have c13b1 : (t337 != 0) = false := bne_eq_false_iff_eq.mpr c13
      clear c13
      by_cases c14 : t342 = 0
      · rw [if_pos c14] at H
        have c14b0 : (t342 == 0) = true := beq_iff_eq.mpr c14
        have c14b1 : (t342 != 0) = false := bne_eq_false_iff_eq.mpr c14
        clear c14
        obtain ⟨y345, hy345⟩ : ∃ y_ : List Int, y_ = (([100, 100, 0] : List Int)) := ⟨_, rfl⟩
        replace H : ((lombardref01_Same.f k t341 y345).bind fun t348 => (some t348)) = some r := by first | (rw [hy345]; with_reducible exact H) | (have H2_ := (Option.bind_some _ _).symm.trans H; rw [hy345]; with_reducible exact H2_) | (have H2_ := (Option.bind_some _ _).symm.trans H; with_reducible exact H2_) | with_reducible exact H | (rw [hy345]; exact H) | exact H
        have Ny345 := Aside0.mk hy345
        clear hy345
        replace H := Option.bind_eq_some_iff.mp H
        obtain ⟨t348, A150, H⟩ := H
        replace H : (some t348) = some r := H
        have A15 := Aside0.mk A150
        clear A150
        obtain rfl := Option.some.inj H
        go_wp2_with (first | ((with_reducible refine gate_dst (N := 27) rfl ?_); (try (refine gate_guard (by rfl) ?_; dsimp only)); refine Kd.R_lit (Kd.int .i64) _ 2 ?hg (N := 27) ?hd (xs := ([100, 100, 0] : List Int)) (inner := [.int .i64 100, .int .i64 100, .int .i64 0]) (ok := fun _ => True) (okp := fun _ => True) ?hr ?hp (fun _ hk => hk) trivial (Below.refl _ _) (Nat.le_refl _) (by simp) ?_; (case hd => rfl); (case hg => rfl); (case hr => first | (go_simp; done) | (go_simp; rfl)); (case hp => exact (Reps.one (show Kd.M (Kd.int .i64) _ _ _ 100 [.int .i64 100] from rfl) (Reps.one (show Kd.M (Kd.int .i64) _ _ _ 100 [.int .i64 100] from rfl) (Reps.one (show Kd.M (Kd.int .i64) _ _ _ 0 [.int .i64 0] from rfl) (Reps.none _ _))))); intro v346 w16 ho17 hb hg_ hnew_; clear hg_ hnew_; (first | rw [← Ny345.out] at ho17 | (simp only [Int.reduceToNat] at ho17; rw [← Ny345.out] at ho17)); have n0_ := Aside0.mk (Kd.R_elder' (by (with_reducible repeat (first | apply Kd.R_alloc | apply Kd.R_drewN | apply Kd.R_drew)); exact HO335.out) (Kd.R_base ho17) hb); have n1_ := Aside0.mk (Kd.R_elder' (by (with_reducible repeat (first | apply Kd.R_alloc | apply Kd.R_drewN | apply Kd.R_drew)); exact HO340.out) (Kd.R_base ho17) hb); have n2_ := Aside0.mk (Kd.R_elder' (by (with_reducible repeat (first | apply Kd.R_alloc | apply Kd.R_drewN | apply Kd.R_drew)); exact HO344.out) (Kd.R_base ho17) hb); have n3_ := Aside0.mk (Kd.R_lower (Kd.R_new' (Kd.R_new' (Kd.R_new' ho17 (Kd.R_lt (by (with_reducible repeat (first | apply Kd.R_alloc | apply Kd.R_drewN | apply Kd.R_drew)); exact HO335.out))) (Kd.R_lt (by (with_reducible repeat (first | apply Kd.R_alloc | apply Kd.R_drewN | apply Kd.R_drew)); exact HO340.out))) (Kd.R_lt (by (with_reducible repeat (first | apply Kd.R_alloc | apply Kd.R_drewN | apply Kd.R_drew)); exact HO344.out))) (below_size (by repeat (first | (with_reducible first | exact HB.out | apply below_alloc | apply pw_below_drewN | apply below_drew1) | exact HB.out)))); have n4_ := Aside0.mk (below_step (by repeat (first | (with_reducible first | exact HB.out | apply below_alloc | apply pw_below_drewN | apply below_drew1) | exact HB.out)) hb); clear HO335; clear HO340; clear HO344; clear HB; have HO335 := n0_; have HO340 := n1_; have HO344 := n2_; have HO347 := n3_; have HB := n4_; clear n0_ n1_ n2_ n3_ n4_; clear hb ho17; obtain ⟨Ao18, co18, eo18⟩ := Kd.R_slice HO344.out; subst eo18; obtain ⟨Ao19, co19, eo19⟩ := Kd.R_slice HO347.out; subst eo19) | (go_at_call 37; (with_reducible refine (lombardref01_Same.calls k _ _ t341 _ _ y345 t348 _ ?side1 ?side2 ?side3 ?side4 A15.out).mono ?_); (case side1 => repeat (first | exact (Kd.R_reads' HO344.out).2.2 | (with_reducible refine Kd.C_alloc ?_ _) | (with_reducible refine Kd.C_drewN ?_ _) | (with_reducible refine Kd.C_drew ?_))); (case side2 => exact (Kd.R_reads' HO344.out).2.1); (case side3 => repeat (first | exact (Kd.R_reads' HO347.out).2.2 | (with_reducible refine Kd.C_alloc ?_ _) | (with_reducible refine Kd.C_drewN ?_ _) | (with_reducible refine Kd.C_drew ?_))); (case side4 => exact (Kd.R_reads' HO347.out).2.1); rintro e w' ⟨rfl, ⟨nd, rfl⟩⟩))
        go_ret
        exact ⟨by first | rfl | (simp [errW_none, errW_some] <;> rfl) | (simp [*, errW_none, errW_some] <;> rfl), by repeat (first | (with_reducible first | exact HB.out | apply below_alloc | apply pw_below_drewN | apply below_drew1) | exact HB.out)⟩
      · rw [if_neg c14] at H
        have c14b0 : (t342 == 0) = false := beq_eq_false_iff_ne.mpr c14
        have c14b1 : (t342 != 0) = true := bne_iff_ne.mpr c14
        obtain rfl := Option.some.inj H
        go_wp2
        go_ret
        exact ⟨by first | rfl | (simp [errW_none, errW_some] <;> rfl) | (simp [*, errW_none, errW_some] <;> rfl), by repeat (first | (with_reducible first | exact HB.out | apply below_alloc | apply pw_below_drewN | apply below_drew1) | exact HB.out)⟩
    · rw [if_neg c13] at H
      have c13b0 : (t337 == 0) = false := beq_eq_false_iff_ne.mpr c13
      have c13b1 : (t337 != 0) = true := bne_iff_ne.mpr c13
      obtain rfl := Option.some.inj H
      go_wp2
      go_ret
      exact ⟨by first | rfl | (simp [errW_none, errW_some] <;> rfl) | (simp [*, errW_none, errW_some] <;> rfl), by repeat (first | (with_reducible first | exact HB.out | apply below_alloc | apply pw_below_drewN | apply below_drew1) | exact HB.out)⟩
  · rw [if_neg c12] at H
    have c12b0 : (t336 == 100) = false := beq_eq_false_iff_ne.mpr c12
    have c12b1 : (t336 != 100) = true := bne_iff_ne.mpr c12
    obtain rfl := Option.some.inj H
    go_wp2
    go_ret
    exact ⟨by first | rfl | (simp [errW_none, errW_some] <;> rfl) | (simp [*, errW_none, errW_some] <;> rfl), by repeat (first | (with_reducible first | exact HB.out | apply below_alloc | apply pw_below_drewN | apply below_drew1) | exact HB.out)⟩

end Go.Proofs.Ytalnlphinlfenaa.S
end

section
namespace Go.Proofs.Ytalnlphinlfenaa.S
open Go.RowKit Go.Proofs.YtalnlphinlfenaaW.PrintWords Go.Proofs.YtalnlphinlfenaaW.PrintLast Go.Proofs.YtalnlphinlfenaaW.PrintMore
attribute [local go_sem] max2_int min2_int max_two min_two max_three min_three max_four min_four   -- for this text's walks alone
attribute [local go_sem] Go.Proofs.Ytalnlphinlfenaa.XWalk.cell2
set_option linter.unusedVariables false
set_option linter.unusedSimpArgs false

/-! ### lombardlaw09_ValueEnds: function 7 -/
mutual
def lombardlaw09_ValueEnds.j0 : Nat → List Int → Int → Int → Int → Bool → Option (Bool)
  | 0, _, _, _, _, _ => none
  | k + 1, x3, x4, x5, x6, x33 => if x33 = true then (some true) else ((value_Of.f k x3 x4).bind fun bt389 => ((some (([] : List Int) : List Int)).bind fun y391 => (if y391.length + x3.length < 17592186044416 then ((some (y391 ++ x3 : List Int)).bind fun y394 => (if 0 ≤ x5 then (if y394.length + (x5 : Int).toNat < 17592186044416 then ((value_Of.f k (y394 ++ List.replicate (x5 : Int).toNat 0) x4).bind fun bt400 => (if bt389.1 = bt400.1 then (lombardlaw09_ValueEnds.j1 k x4 x5 x6 (bt389.2 != bt400.2)) else (lombardlaw09_ValueEnds.j1 k x4 x5 x6 true))) else (none)) else (none))) else (none))))
def lombardlaw09_ValueEnds.j1 : Nat → Int → Int → Int → Bool → Option (Bool)
  | 0, _, _, _, _ => none
  | k + 1, x4, x5, x6, x57 => if x57 = true then (some false) else (if 0 ≤ x5 then (if (x5 : Int).toNat ≤ 35184372088832 then ((some (List.replicate (x5 : Int).toNat 0 : List Int)).bind fun y402 => (if y402.length < 17592186044416 then ((value_Of.f k (y402 ++ [x6]) x4).bind fun bt408 => (if 0 ≤ (wrap64 ((wrap64 (x5)) + 1)) then (if (wrap64 ((wrap64 (x5)) + 1) : Int).toNat ≤ 35184372088832 then ((some (List.replicate (wrap64 ((wrap64 (x5)) + 1) : Int).toNat 0 : List Int)).bind fun y410 => (if y410.length < 17592186044416 then ((value_Of.f k (y410 ++ [x6]) x4).bind fun bt416 => (if bt408.2 = 0 then ((rate_Discount.f k bt408.1 x4).bind fun bt418 => (if bt416.2 = 0 then (if bt418.2 = 0 then (some (bt418.1 == bt416.1)) else (some false)) else (some (bt416.2 == 3)))) else (some (bt416.2 == bt408.2)))) else (none))) else (none)) else (none))) else (none))) else (none)) else (none))
end
def lombardlaw09_ValueEnds.f (k : Nat) (l0_0 : List Int) (a0_1 : Int) (a0_2 : Int) (a0_3 : Int) : Option (Bool) := (lombardlaw09_alive.f k).bind fun t388 => (if t388 = true then (if (l0_0.length : Int) > 60 then (lombardlaw09_ValueEnds.j0 k l0_0 a0_1 a0_2 a0_3 true) else (lombardlaw09_ValueEnds.j0 k l0_0 a0_1 a0_2 a0_3 (decide (a0_2 > 60)))) else (some false))
set_option maxHeartbeats 8000000 in
set_option maxRecDepth 100000 in
theorem lombardlaw09_ValueEnds.calls (k : Nat) (A0_0 : Option Addr) (c0_0 : Nat) (l0_0 : List Int) (a0_1 : Int) (a0_2 : Int) (a0_3 : Int) (r : Bool) (w : World) (hr0_0 : Kd.C (Kd.int .i64) w A0_0 l0_0.length l0_0) (hc0_0 : l0_0.length ≤ c0_0) (h : lombardlaw09_ValueEnds.f k l0_0 a0_1 a0_2 a0_3 = some r) :
    Calls Try.prog 7 #[.agg #[.slice A0_0 l0_0.length c0_0, .int .i64 a0_1, .int .u8 a0_2, .int .i64 a0_3]] w fun e w' => e = .returned (.bool r) ∧ Below w.heap.size w w' := by
  have hu47 := Try.underlying47
  have HR0_0 := Aside0.mk hr0_0
  have HC0_0 := Aside0.mk hc0_0
  clear hr0_0 hc0_0
  have HB := Aside0.mk (Below.refl w.heap.size w)
  have H : ((lombardlaw09_alive.f k).bind fun t388 => (if t388 = true then (if (l0_0.length : Int) > 60 then (lombardlaw09_ValueEnds.j0 k l0_0 a0_1 a0_2 a0_3 true) else (lombardlaw09_ValueEnds.j0 k l0_0 a0_1 a0_2 a0_3 (decide (a0_2 > 60)))) else (some false))) = some r := h
  clear h
  replace H := Option.bind_eq_some_iff.mp H
  obtain ⟨t388, A20, H⟩ := H
  replace H : (if t388 = true then (if (l0_0.length : Int) > 60 then (lombardlaw09_ValueEnds.j0 k l0_0 a0_1 a0_2 a0_3 true) else (lombardlaw09_ValueEnds.j0 k l0_0 a0_1 a0_2 a0_3 (decide (a0_2 > 60)))) else (some false)) = some r := H
  have A2 := Aside0.mk A20
  clear A20
  by_cases c3 : t388 = true
  · subst c3
    have H1 : (if (l0_0.length : Int) > 60 then (lombardlaw09_ValueEnds.j0 k l0_0 a0_1 a0_2 a0_3 true) else (lombardlaw09_ValueEnds.j0 k l0_0 a0_1 a0_2 a0_3 (decide (a0_2 > 60)))) = some r := by rw [if_pos rfl] at H; exact H
    clear H
    have H := H1
    clear H1
    have HC4 := Aside0.mk H
    clear H
    go_enter Try.func7, Try.ntmps7
    go_upto_region 4 with (first | ((with_reducible refine gate_dst (N := 1) rfl ?_); refine box_event ?hg (N := 1) ?hd (cs := #[.slice A0_0 l0_0.length c0_0, .int .i64 a0_1, .int .u8 a0_2, .int .i64 a0_3]) (t := 47) ?hr ?_; (case hd => rfl); (case hg => rfl); (case hr => first | (go_simp; done) | (go_simp; rfl)); intro gb387 hg w5 hbox hb; have n0_ := Aside0.mk (below_step (by repeat (first | (with_reducible first | exact HB.out | apply below_alloc | apply pw_below_drewN | apply below_drew1) | exact HB.out)) hb); have n1_ := Aside0.mk (hbox); have n2_ := Aside0.mk ((by rw [hg]; exact (below_size (by repeat (first | (with_reducible first | exact HB.out | apply below_alloc | apply pw_below_drewN | apply below_drew1) | exact HB.out))) : w.heap.size ≤ gb387)); have n3_ := Aside0.mk ((by rw [hg]; exact (below_size (by repeat (first | (with_reducible first | exact HB.out | apply below_alloc | apply pw_below_drewN | apply below_drew1) | exact HB.out))) : w.heap.size ≤ gb387)); clear HB; have HB := n0_; have BK387 := n1_; have GW387 := n2_; have GE387 := n3_; clear n0_ n1_ n2_ n3_; clear hb hbox hg) | (go_at_call 16; (with_reducible refine (lombardlaw09_alive.calls k  true _ A2.out).mono ?_); rintro e w6 ⟨rfl, hb⟩; have n0_ := Aside0.mk (blk_below (g := gb387) (o := .cells #[.slice A0_0 l0_0.length c0_0, .int .i64 a0_1, .int .u8 a0_2, .int .i64 a0_3] 47 (0, 0)) (by (with_reducible repeat (first | refine blk_drewN ?_ _ | refine blk_drew ?_ | refine blk_alloc ?_ _)); exact BK387.out) hb); have n1_ := Aside0.mk (below_step (by repeat (first | (with_reducible first | exact HB.out | apply below_alloc | apply pw_below_drewN | apply below_drew1 | refine below_set ?_ GE387.out) | exact HB.out)) hb); clear BK387; clear HB; have BK387 := n0_; have HB := n1_; clear n0_ n1_; (try clear hb); (try clear hb2); (try clear hk); (try clear hi); have hcz7_0 : w6.cell? ⟨gb387, 0, none⟩ = some (.slice A0_0 l0_0.length c0_0) := (blk_cell BK387.out 0).trans rfl; have hcz7_1 : w6.cell? ⟨gb387, 1, none⟩ = some (.int .i64 a0_1) := (blk_cell BK387.out 1).trans rfl; have hcz7_2 : w6.cell? ⟨gb387, 2, none⟩ = some (.int .u8 a0_2) := (blk_cell BK387.out 2).trans rfl; have hcz7_3 : w6.cell? ⟨gb387, 3, none⟩ = some (.int .i64 a0_3) := (blk_cell BK387.out 3).trans rfl; have hfz7_0 := blk_frozen BK387.out 0; have hfz7_1 := blk_frozen BK387.out 1; have hfz7_2 := blk_frozen BK387.out 2; have hfz7_3 := blk_frozen BK387.out 3))
    repeat (go_quiet (first | ((with_reducible refine gate_dst (N := 1) rfl ?_); refine box_event ?hg (N := 1) ?hd (cs := #[.slice A0_0 l0_0.length c0_0, .int .i64 a0_1, .int .u8 a0_2, .int .i64 a0_3]) (t := 47) ?hr ?_; (case hd => rfl); (case hg => rfl); (case hr => first | (go_simp; done) | (go_simp; rfl)); intro gb387 hg w5 hbox hb; have n0_ := Aside0.mk (below_step (by repeat (first | (with_reducible first | exact HB.out | apply below_alloc | apply pw_below_drewN | apply below_drew1) | exact HB.out)) hb); have n1_ := Aside0.mk (hbox); have n2_ := Aside0.mk ((by rw [hg]; exact (below_size (by repeat (first | (with_reducible first | exact HB.out | apply below_alloc | apply pw_below_drewN | apply below_drew1) | exact HB.out))) : w.heap.size ≤ gb387)); have n3_ := Aside0.mk ((by rw [hg]; exact (below_size (by repeat (first | (with_reducible first | exact HB.out | apply below_alloc | apply pw_below_drewN | apply below_drew1) | exact HB.out))) : w.heap.size ≤ gb387)); clear HB; have HB := n0_; have BK387 := n1_; have GW387 := n2_; have GE387 := n3_; clear n0_ n1_ n2_ n3_; clear hb hbox hg) | (go_at_call 16; (with_reducible refine (lombardlaw09_alive.calls k  true _ A2.out).mono ?_); rintro e w6 ⟨rfl, hb⟩; have n0_ := Aside0.mk (blk_below (g := gb387) (o := .cells #[.slice A0_0 l0_0.length c0_0, .int .i64 a0_1, .int .u8 a0_2, .int .i64 a0_3] 47 (0, 0)) (by (with_reducible repeat (first | refine blk_drewN ?_ _ | refine blk_drew ?_ | refine blk_alloc ?_ _)); exact BK387.out) hb); have n1_ := Aside0.mk (below_step (by repeat (first | (with_reducible first | exact HB.out | apply below_alloc | apply pw_below_drewN | apply below_drew1 | refine below_set ?_ GE387.out) | exact HB.out)) hb); clear BK387; clear HB; have BK387 := n0_; have HB := n1_; clear n0_ n1_; (try clear hb); (try clear hb2); (try clear hk); (try clear hi); have hcz7_0 : w6.cell? ⟨gb387, 0, none⟩ = some (.slice A0_0 l0_0.length c0_0) := (blk_cell BK387.out 0).trans rfl; have hcz7_1 : w6.cell? ⟨gb387, 1, none⟩ = some (.int .i64 a0_1) := (blk_cell BK387.out 1).trans rfl; have hcz7_2 : w6.cell? ⟨gb387, 2, none⟩ = some (.int .u8 a0_2) := (blk_cell BK387.out 2).trans rfl; have hcz7_3 : w6.cell? ⟨gb387, 3, none⟩ = some (.int .i64 a0_3) := (blk_cell BK387.out 3).trans rfl; have hfz7_0 := blk_frozen BK387.out 0; have hfz7_1 := blk_frozen BK387.out 1; have hfz7_2 := blk_frozen BK387.out 2; have hfz7_3 := blk_frozen BK387.out 3)); go_upto_region 4 with (first | ((with_reducible refine gate_dst (N := 1) rfl ?_); refine box_event ?hg (N := 1) ?hd (cs := #[.slice A0_0 l0_0.length c0_0, .int .i64 a0_1, .int .u8 a0_2, .int .i64 a0_3]) (t := 47) ?hr ?_; (case hd => rfl); (case hg => rfl); (case hr => first | (go_simp; done) | (go_simp; rfl)); intro gb387 hg w5 hbox hb; have n0_ := Aside0.mk (below_step (by repeat (first | (with_reducible first | exact HB.out | apply below_alloc | apply pw_below_drewN | apply below_drew1) | exact HB.out)) hb); have n1_ := Aside0.mk (hbox); have n2_ := Aside0.mk ((by rw [hg]; exact (below_size (by repeat (first | (with_reducible first | exact HB.out | apply below_alloc | apply pw_below_drewN | apply below_drew1) | exact HB.out))) : w.heap.size ≤ gb387)); have n3_ := Aside0.mk ((by rw [hg]; exact (below_size (by repeat (first | (with_reducible first | exact HB.out | apply below_alloc | apply pw_below_drewN | apply below_drew1) | exact HB.out))) : w.heap.size ≤ gb387)); clear HB; have HB := n0_; have BK387 := n1_; have GW387 := n2_; have GE387 := n3_; clear n0_ n1_ n2_ n3_; clear hb hbox hg) | (go_at_call 16; (with_reducible refine (lombardlaw09_alive.calls k  true _ A2.out).mono ?_); rintro e w6 ⟨rfl, hb⟩; have n0_ := Aside0.mk (blk_below (g := gb387) (o := .cells #[.slice A0_0 l0_0.length c0_0, .int .i64 a0_1, .int .u8 a0_2, .int .i64 a0_3] 47 (0, 0)) (by (with_reducible repeat (first | refine blk_drewN ?_ _ | refine blk_drew ?_ | refine blk_alloc ?_ _)); exact BK387.out) hb); have n1_ := Aside0.mk (below_step (by repeat (first | (with_reducible first | exact HB.out | apply below_alloc | apply pw_below_drewN | apply below_drew1 | refine below_set ?_ GE387.out) | exact HB.out)) hb); clear BK387; clear HB; have BK387 := n0_; have HB := n1_; clear n0_ n1_; (try clear hb); (try clear hb2); (try clear hk); (try clear hi); have hcz7_0 : w6.cell? ⟨gb387, 0, none⟩ = some (.slice A0_0 l0_0.length c0_0) := (blk_cell BK387.out 0).trans rfl; have hcz7_1 : w6.cell? ⟨gb387, 1, none⟩ = some (.int .i64 a0_1) := (blk_cell BK387.out 1).trans rfl; have hcz7_2 : w6.cell? ⟨gb387, 2, none⟩ = some (.int .u8 a0_2) := (blk_cell BK387.out 2).trans rfl; have hcz7_3 : w6.cell? ⟨gb387, 3, none⟩ = some (.int .i64 a0_3) := (blk_cell BK387.out 3).trans rfl; have hfz7_0 := blk_frozen BK387.out 0; have hfz7_1 := blk_frozen BK387.out 1; have hfz7_2 := blk_frozen BK387.out 2; have hfz7_3 := blk_frozen BK387.out 3)))
    (try simp only [Act.put, List.setIfInBounds_toArray, List.set_cons_zero, List.set_cons_succ])
    go_cut [33] (fun v33 wc => ∃ (kq : Nat) (x33_3 : Bool), v33 = .bool x33_3 ∧ Aside0 (lombardlaw09_ValueEnds.j0 kq l0_0 a0_1 a0_2 a0_3 x33_3 = some r) ∧ Aside0 (kq ≤ k) ∧ Aside0 (wc.heap[gb387]? = some (.cells #[(.slice A0_0 l0_0.length c0_0), .int .i64 a0_1, .int .u8 a0_2, .int .i64 a0_3] 47 (0, 0))) ∧ Aside0 (Below w.heap.size w wc))
    case first =>
      have H := HC4.out
      clear HC4
      by_cases c8 : (l0_0.length : Int) > 60
      · rw [if_pos c8] at H
        have c8b0 : decide (60 < (l0_0.length : Int)) = true := decide_eq_true c8
        have c8b1 : decide (60 < l0_0.length) = true := decide_eq_true (by omega)
        clear c8
        (first | rw [c8b0] | (simp only [i64_w, i32_w]; rw [c8b0]) | skip)
        have H' := Aside0.mk H
        clear H
        go_wp2
        repeat (go_quiet (fail); try go_wp2)
        go_meet
        case rel => exact ⟨_, (true), (by first | rfl | (simp; done) | (simp [*]; done)), H', ⟨by first | omega | exact Nat.le_refl _⟩, ⟨by (with_reducible repeat (first | refine blk_drewN ?_ _ | refine blk_drew ?_ | refine blk_alloc ?_ _)); exact BK387.out⟩, ⟨by repeat (first | (with_reducible first | exact HB.out | apply below_alloc | apply pw_below_drewN | apply below_drew1 | refine below_set ?_ GE387.out) | exact HB.out)⟩⟩
      · rw [if_neg c8] at H
        have c8b0 : decide (60 < (l0_0.length : Int)) = false := decide_eq_false c8
        have c8b1 : decide (60 < l0_0.length) = false := decide_eq_false (by omega)
        clear c8
        (first | rw [c8b0] | (simp only [i64_w, i32_w]; rw [c8b0]) | skip)
        have H' := Aside0.mk H
        clear H
        go_wp2
        repeat (go_quiet (fail); try go_wp2)
        go_meet
        case rel => exact ⟨_, (decide (a0_2 > 60)), (by first | rfl | (simp; done) | (simp [*]; done)), H', ⟨by first | omega | exact Nat.le_refl _⟩, ⟨by (with_reducible repeat (first | refine blk_drewN ?_ _ | refine blk_drew ?_ | refine blk_alloc ?_ _)); exact BK387.out⟩, ⟨by repeat (first | (with_reducible first | exact HB.out | apply below_alloc | apply pw_below_drewN | apply below_drew1 | refine below_set ?_ GE387.out) | exact HB.out)⟩⟩
    case rest =>
      clear HC4
      try clear p2
      try clear c3
      try clear c7
      try clear c8
      try clear c8b0
      try clear c8b1
      try clear hcz7_0
      try clear hcz7_1
      try clear hcz7_2
      try clear hcz7_3
      try clear hfz7_0
      try clear hfz7_1
      try clear hfz7_2
      try clear hfz7_3
      obtain ⟨kq, x33_3, rfl, HA, HJ3, BK387, HB⟩ := hcut
      cases kq with
      | zero => exact absurd HA.out (by simp [lombardlaw09_ValueEnds.j0])
      | succ kj3 =>
        have H := HA.out
        clear HA
        simp only [lombardlaw09_ValueEnds.j0] at H
        by_cases c9 : x33_3 = true
        · subst c9
          have H1 : (some true) = some r := by rw [if_pos rfl] at H; exact H
          clear H
          have H := H1
          clear H1
          obtain rfl := Option.some.inj H
          go_wp2
          repeat (go_quiet (fail); try go_wp2)
          go_ret
          exact ⟨by first | rfl | (simp [errW_none, errW_some] <;> rfl) | (simp [*, errW_none, errW_some] <;> rfl), by repeat (first | (with_reducible first | exact HB.out | apply below_alloc | apply pw_below_drewN | apply below_drew1 | refine below_set ?_ GE387.out) | exact HB.out)⟩
        · replace c9 := Bool.eq_false_iff.mpr c9
          subst c9
          have H1 : ((value_Of.f kj3 l0_0 a0_1).bind fun bt389 => ((some (([] : List Int) : List Int)).bind fun y391 => (if y391.length + l0_0.length < 17592186044416 then ((some (y391 ++ l0_0 : List Int)).bind fun y394 => (if 0 ≤ a0_2 then (if y394.length + (a0_2 : Int).toNat < 17592186044416 then ((value_Of.f kj3 (y394 ++ List.replicate (a0_2 : Int).toNat 0) a0_1).bind fun bt400 => (if bt389.1 = bt400.1 then (lombardlaw09_ValueEnds.j1 kj3 a0_1 a0_2 a0_3 (bt389.2 != bt400.2)) else (lombardlaw09_ValueEnds.j1 kj3 a0_1 a0_2 a0_3 true))) else (none)) else (none))) else (none)))) = some r := by rw [if_neg (show ¬ (false = true) by decide)] at H; exact H
          clear H
          have H := H1
          clear H1
          replace H := Option.bind_eq_some_iff.mp H
          obtain ⟨⟨t389, t390⟩, A100, H⟩ := H
          replace H : ((some (([] : List Int) : List Int)).bind fun y391 => (if y391.length + l0_0.length < 17592186044416 then ((some (y391 ++ l0_0 : List Int)).bind fun y394 => (if 0 ≤ a0_2 then (if y394.length + (a0_2 : Int).toNat < 17592186044416 then ((value_Of.f kj3 (y394 ++ List.replicate (a0_2 : Int).toNat 0) a0_1).bind fun bt400 => (if t389 = bt400.1 then (lombardlaw09_ValueEnds.j1 kj3 a0_1 a0_2 a0_3 (t390 != bt400.2)) else (lombardlaw09_ValueEnds.j1 kj3 a0_1 a0_2 a0_3 true))) else (none)) else (none))) else (none))) = some r := H
          have A10 := Aside0.mk A100
          clear A100
          obtain ⟨y391, hy391⟩ : ∃ y_ : List Int, y_ = (([] : List Int)) := ⟨_, rfl⟩
          replace H : (if y391.length + l0_0.length < 17592186044416 then ((some (y391 ++ l0_0 : List Int)).bind fun y394 => (if 0 ≤ a0_2 then (if y394.length + (a0_2 : Int).toNat < 17592186044416 then ((value_Of.f kj3 (y394 ++ List.replicate (a0_2 : Int).toNat 0) a0_1).bind fun bt400 => (if t389 = bt400.1 then (lombardlaw09_ValueEnds.j1 kj3 a0_1 a0_2 a0_3 (t390 != bt400.2)) else (lombardlaw09_ValueEnds.j1 kj3 a0_1 a0_2 a0_3 true))) else (none)) else (none))) else (none)) = some r := by first | (rw [hy391]; with_reducible exact H) | (have H2_ := (Option.bind_some _ _).symm.trans H; rw [hy391]; with_reducible exact H2_) | (have H2_ := (Option.bind_some _ _).symm.trans H; with_reducible exact H2_) | with_reducible exact H | (rw [hy391]; exact H) | exact H
          have Ny391 := Aside0.mk hy391
          clear hy391
          by_cases c11 : y391.length + l0_0.length < 17592186044416
          · rw [if_pos c11] at H
            have LMc11 := Aside0.mk c11
            clear c11
            obtain ⟨y394, hy394⟩ : ∃ y_ : List Int, y_ = (y391 ++ l0_0) := ⟨_, rfl⟩
            replace H : (if 0 ≤ a0_2 then (if y394.length + (a0_2 : Int).toNat < 17592186044416 then ((value_Of.f kj3 (y394 ++ List.replicate (a0_2 : Int).toNat 0) a0_1).bind fun bt400 => (if t389 = bt400.1 then (lombardlaw09_ValueEnds.j1 kj3 a0_1 a0_2 a0_3 (t390 != bt400.2)) else (lombardlaw09_ValueEnds.j1 kj3 a0_1 a0_2 a0_3 true))) else (none)) else (none)) = some r := by first | (rw [hy394]; with_reducible exact H) | (have H2_ := (Option.bind_some _ _).symm.trans H; rw [hy394]; with_reducible exact H2_) | (have H2_ := (Option.bind_some _ _).symm.trans H; with_reducible exact H2_) | with_reducible exact H | (rw [hy394]; exact H) | exact H
            have Ny394 := Aside0.mk hy394
            clear hy394
            by_cases c12 : 0 ≤ a0_2
            · rw [if_pos c12] at H
              have c12b0 := eq_true c12
              have c12b1 : decide (0 ≤ a0_2) = true := decide_eq_true c12
              clear c12
              by_cases c13 : y394.length + (a0_2 : Int).toNat < 17592186044416
              · rw [if_pos c13] at H
                have LMc13 := Aside0.mk c13
                clear c13
                obtain ⟨y397, hy397⟩ : ∃ y_ : List Int, y_ = (y394 ++ List.replicate (a0_2 : Int).toNat 0) := ⟨_, rfl⟩
                replace H : ((value_Of.f kj3 y397 a0_1).bind fun bt400 => (if t389 = bt400.1 then (lombardlaw09_ValueEnds.j1 kj3 a0_1 a0_2 a0_3 (t390 != bt400.2)) else (lombardlaw09_ValueEnds.j1 kj3 a0_1 a0_2 a0_3 true))) = some r := by first | (rw [hy397]; with_reducible exact H) | (have H2_ := (Option.bind_some _ _).symm.trans H; rw [hy397]; with_reducible exact H2_) | (have H2_ := (Option.bind_some _ _).symm.trans H; with_reducible exact H2_) | with_reducible exact H | (rw [hy397]; exact H) | exact H
                have Ny397 := Aside0.mk hy397
                clear hy397
                replace H := Option.bind_eq_some_iff.mp H
                obtain ⟨⟨t400, t401⟩, A140, H⟩ := H
                replace H : (if t389 = t400 then (lombardlaw09_ValueEnds.j1 kj3 a0_1 a0_2 a0_3 (t390 != t401)) else (lombardlaw09_ValueEnds.j1 kj3 a0_1 a0_2 a0_3 true)) = some r := H
                have A14 := Aside0.mk A140
                clear A140
                have HC15 := Aside0.mk H
                clear H
                go_upto_region 8 with (first | (go_at_call 18; (with_reducible refine (value_Of.calls kj3 _ _ l0_0 a0_1 t389 t390 _ ?side1 ?side2 A10.out).mono ?_); (case side1 => repeat (first | exact (Kd.C_below HR0_0.out HB.out) | (with_reducible refine Kd.C_alloc ?_ _) | (with_reducible refine Kd.C_drewN ?_ _) | (with_reducible refine Kd.C_drew ?_))); (case side2 => exact HC0_0.out); rintro e w16 ⟨rfl, hb⟩; have n0_ := Aside0.mk (blk_below (g := gb387) (o := .cells #[.slice A0_0 l0_0.length c0_0, .int .i64 a0_1, .int .u8 a0_2, .int .i64 a0_3] 47 (0, 0)) (by (with_reducible repeat (first | refine blk_drewN ?_ _ | refine blk_drew ?_ | refine blk_alloc ?_ _)); exact BK387.out) hb); have n1_ := Aside0.mk (below_step (by repeat (first | (with_reducible first | exact HB.out | apply below_alloc | apply pw_below_drewN | apply below_drew1 | refine below_set ?_ GE387.out) | exact HB.out)) hb); clear BK387; clear HB; have BK387 := n0_; have HB := n1_; clear n0_ n1_; (try clear hb); (try clear hb2); (try clear hk); (try clear hi)) | ((with_reducible refine gate_dst (N := 41) rfl ?_); refine Kd.R_lit (Kd.int .i64) _ 2 ?hg (N := 41) ?hd (xs := ([] : List Int)) (inner := []) (ok := fun _ => True) (okp := fun _ => True) ?hr ?hp (fun _ hk => hk) trivial (Below.refl _ _) (Nat.le_refl _) (by simp) ?_; (case hd => rfl); (case hg => rfl); (case hr => first | (go_simp; done) | (go_simp; rfl)); (case hp => exact (Reps.none _ _)); intro v392 w17 ho18 hb hg_ hnew_; clear hg_ hnew_; (first | rw [← Ny391.out] at ho18 | (simp only [Int.reduceToNat] at ho18; rw [← Ny391.out] at ho18)); have n0_ := Aside0.mk (Kd.R_lower ho18 (below_size (by repeat (first | (with_reducible first | exact HB.out | apply below_alloc | apply pw_below_drewN | apply below_drew1 | refine below_set ?_ GE387.out) | exact HB.out)))); have n1_ := Aside0.mk (blk_below (g := gb387) (o := .cells #[.slice A0_0 l0_0.length c0_0, .int .i64 a0_1, .int .u8 a0_2, .int .i64 a0_3] 47 (0, 0)) (by (with_reducible repeat (first | refine blk_drewN ?_ _ | refine blk_drew ?_ | refine blk_alloc ?_ _)); exact BK387.out) hb); have n2_ := Aside0.mk (below_step (by repeat (first | (with_reducible first | exact HB.out | apply below_alloc | apply pw_below_drewN | apply below_drew1 | refine below_set ?_ GE387.out) | exact HB.out)) hb); clear BK387; clear HB; have HO393 := n0_; have BK387 := n1_; have HB := n2_; clear n0_ n1_ n2_; clear hb ho18) | ((with_reducible refine gate_builtin (b := .append) (xs := #[.tmp 41, .tmp 42]) rfl ?_); at_builtin; refine Kd.R_append_rows (Kd.int .i64) (w0 := w) w.heap.size rfl (.tmp 41) (.tmp 42) 22 2 (.int .i64 0) 8 rfl Try.underlying22 info2 rfl (by decide) (by omega) v392 y391 l0_0 _ _ _ (fun _ => True) (fun _ => False) rfl rfl ?aO ?aR (fun _ _ h => h) (fun _ h => h.elim) ?aF ?aB ?aS ?aL ?_; (case aR => repeat (first | exact (Kd.C_below HR0_0.out HB.out) | (with_reducible refine Kd.C_alloc ?_ _) | (with_reducible refine Kd.C_drewN ?_ _) | (with_reducible refine Kd.C_drew ?_))); (case aB => exact (by repeat (first | (with_reducible first | exact HB.out | apply below_alloc | apply pw_below_drewN | apply below_drew1 | refine below_set ?_ GE387.out) | exact HB.out))); (case aF => exact (fun _ _ => trivial)); (case aO => exact (by (with_reducible repeat (first | apply Kd.R_alloc | apply Kd.R_drewN | apply Kd.R_drew)); exact HO393.out)); (case aS => exact (below_size (by repeat (first | (with_reducible first | exact HB.out | apply below_alloc | apply pw_below_drewN | apply below_drew1 | refine below_set ?_ GE387.out) | exact HB.out)))); (case aL => have := LMc11.out; omega); intro v395 w19 ho hb hg hat; rw [← Ny394.out] at ho; have n0_ := Aside0.mk (blk_grown (g := gb387) (o := .cells #[.slice A0_0 l0_0.length c0_0, .int .i64 a0_1, .int .u8 a0_2, .int .i64 a0_3] 47 (0, 0)) (by (with_reducible repeat (first | refine blk_drewN ?_ _ | refine blk_drew ?_ | refine blk_alloc ?_ _)); exact BK387.out) hg (Kd.R_ne HO393.out BK387.out (by decide))); have n1_ := Aside0.mk (hb); have n2_ := Aside0.mk (ho); clear BK387; clear HB; clear HO393; have BK387 := n0_; have HB := n1_; have HO396 := n2_; clear n0_ n1_ n2_; clear ho hb hg hat) | (at_builtin; refine Kd.R_append_zeros (Kd.int .i64) (w0 := w) w.heap.size rfl (.tmp 43) (.tmp 44) 22 5 2 (.int .i64 0) 8 rfl Try.underlying22 Try.underlying5 info2 rfl (by decide) (by omega) v395 y394 0 (a0_2 : Int) (fun _ => True) rfl rfl rfl ?aF ?aO (of_decide_eq_true (by first | (with_reducible assumption) | assumption)) ?aB ?aS ?aL ?_; (case aB => exact (by repeat (first | (with_reducible first | exact HB.out | apply below_alloc | apply pw_below_drewN | apply below_drew1 | refine below_set ?_ GE387.out) | exact HB.out))); (case aF => exact (fun _ _ => trivial)); (case aO => exact (by (with_reducible repeat (first | apply Kd.R_alloc | apply Kd.R_drewN | apply Kd.R_drew)); exact HO396.out)); (case aS => exact (below_size (by repeat (first | (with_reducible first | exact HB.out | apply below_alloc | apply pw_below_drewN | apply below_drew1 | refine below_set ?_ GE387.out) | exact HB.out)))); (case aL => have := LMc13.out; omega); intro v398 w20 ho hb hg hat; rw [← Ny397.out] at ho; have n0_ := Aside0.mk (blk_grown (g := gb387) (o := .cells #[.slice A0_0 l0_0.length c0_0, .int .i64 a0_1, .int .u8 a0_2, .int .i64 a0_3] 47 (0, 0)) (by (with_reducible repeat (first | refine blk_drewN ?_ _ | refine blk_drew ?_ | refine blk_alloc ?_ _)); exact BK387.out) hg (Kd.R_ne HO396.out BK387.out (by decide))); have n1_ := Aside0.mk (hb); have n2_ := Aside0.mk (ho); clear BK387; clear HB; clear HO396; have BK387 := n0_; have HB := n1_; have HO399 := n2_; clear n0_ n1_ n2_; clear ho hb hg hat; obtain ⟨Ao21, co21, eo21⟩ := Kd.R_slice HO399.out; subst eo21) | (go_at_call 18; (with_reducible refine (value_Of.calls kj3 _ _ y397 a0_1 t400 t401 _ ?side1 ?side2 A14.out).mono ?_); (case side1 => repeat (first | exact (Kd.R_reads' HO399.out).2.2 | (with_reducible refine Kd.C_alloc ?_ _) | (with_reducible refine Kd.C_drewN ?_ _) | (with_reducible refine Kd.C_drew ?_))); (case side2 => exact (Kd.R_reads' HO399.out).2.1); rintro e w22 ⟨rfl, hb⟩; have n0_ := Aside0.mk (Kd.R_below (by (with_reducible repeat (first | apply Kd.R_alloc | apply Kd.R_drewN | apply Kd.R_drew)); exact HO399.out) hb); have n1_ := Aside0.mk (blk_below (g := gb387) (o := .cells #[.slice A0_0 l0_0.length c0_0, .int .i64 a0_1, .int .u8 a0_2, .int .i64 a0_3] 47 (0, 0)) (by (with_reducible repeat (first | refine blk_drewN ?_ _ | refine blk_drew ?_ | refine blk_alloc ?_ _)); exact BK387.out) hb); have n2_ := Aside0.mk (below_step (by repeat (first | (with_reducible first | exact HB.out | apply below_alloc | apply pw_below_drewN | apply below_drew1 | refine below_set ?_ GE387.out) | exact HB.out)) hb); clear HO399; clear BK387; clear HB; have HO399 := n0_; have BK387 := n1_; have HB := n2_; clear n0_ n1_ n2_; (try clear hb); (try clear hb2); (try clear hk); (try clear hi)))
                repeat (go_quiet (first | (go_at_call 18; (with_reducible refine (value_Of.calls kj3 _ _ l0_0 a0_1 t389 t390 _ ?side1 ?side2 A10.out).mono ?_); (case side1 => repeat (first | exact (Kd.C_below HR0_0.out HB.out) | (with_reducible refine Kd.C_alloc ?_ _) | (with_reducible refine Kd.C_drewN ?_ _) | (with_reducible refine Kd.C_drew ?_))); (case side2 => exact HC0_0.out); rintro e w16 ⟨rfl, hb⟩; have n0_ := Aside0.mk (blk_below (g := gb387) (o := .cells #[.slice A0_0 l0_0.length c0_0, .int .i64 a0_1, .int .u8 a0_2, .int .i64 a0_3] 47 (0, 0)) (by (with_reducible repeat (first | refine blk_drewN ?_ _ | refine blk_drew ?_ | refine blk_alloc ?_ _)); exact BK387.out) hb); have n1_ := Aside0.mk (below_step (by repeat (first | (with_reducible first | exact HB.out | apply below_alloc | apply pw_below_drewN | apply below_drew1 | refine below_set ?_ GE387.out) | exact HB.out)) hb); clear BK387; clear HB; have BK387 := n0_; have HB := n1_; clear n0_ n1_; (try clear hb); (try clear hb2); (try clear hk); (try clear hi)) | ((with_reducible refine gate_dst (N := 41) rfl ?_); refine Kd.R_lit (Kd.int .i64) _ 2 ?hg (N := 41) ?hd (xs := ([] : List Int)) (inner := []) (ok := fun _ => True) (okp := fun _ => True) ?hr ?hp (fun _ hk => hk) trivial (Below.refl _ _) (Nat.le_refl _) (by simp) ?_; (case hd => rfl); (case hg => rfl); (case hr => first | (go_simp; done) | (go_simp; rfl)); (case hp => exact (Reps.none _ _)); intro v392 w17 ho18 hb hg_ hnew_; clear hg_ hnew_; (first | rw [← Ny391.out] at ho18 | (simp only [Int.reduceToNat] at ho18; rw [← Ny391.out] at ho18)); have n0_ := Aside0.mk (Kd.R_lower ho18 (below_size (by repeat (first | (with_reducible first | exact HB.out | apply below_alloc | apply pw_below_drewN | apply below_drew1 | refine below_set ?_ GE387.out) | exact HB.out)))); have n1_ := Aside0.mk (blk_below (g := gb387) (o := .cells #[.slice A0_0 l0_0.length c0_0, .int .i64 a0_1, .int .u8 a0_2, .int .i64 a0_3] 47 (0, 0)) (by (with_reducible repeat (first | refine blk_drewN ?_ _ | refine blk_drew ?_ | refine blk_alloc ?_ _)); exact BK387.out) hb); have n2_ := Aside0.mk (below_step (by repeat (first | (with_reducible first | exact HB.out | apply below_alloc | apply pw_below_drewN | apply below_drew1 | refine below_set ?_ GE387.out) | exact HB.out)) hb); clear BK387; clear HB; have HO393 := n0_; have BK387 := n1_; have HB := n2_; clear n0_ n1_ n2_; clear hb ho18) | ((with_reducible refine gate_builtin (b := .append) (xs := #[.tmp 41, .tmp 42]) rfl ?_); at_builtin; refine Kd.R_append_rows (Kd.int .i64) (w0 := w) w.heap.size rfl (.tmp 41) (.tmp 42) 22 2 (.int .i64 0) 8 rfl Try.underlying22 info2 rfl (by decide) (by omega) v392 y391 l0_0 _ _ _ (fun _ => True) (fun _ => False) rfl rfl ?aO ?aR (fun _ _ h => h) (fun _ h => h.elim) ?aF ?aB ?aS ?aL ?_; (case aR => repeat (first | exact (Kd.C_below HR0_0.out HB.out) | (with_reducible refine Kd.C_alloc ?_ _) | (with_reducible refine Kd.C_drewN ?_ _) | (with_reducible refine Kd.C_drew ?_))); (case aB => exact (by repeat (first | (with_reducible first | exact HB.out | apply below_alloc | apply pw_below_drewN | apply below_drew1 | refine below_set ?_ GE387.out) | exact HB.out))); (case aF => exact (fun _ _ => trivial)); (case aO => exact (by (with_reducible repeat (first | apply Kd.R_alloc | apply Kd.R_drewN | apply Kd.R_drew)); exact HO393.out)); (case aS => exact (below_size (by repeat (first | (with_reducible first | exact HB.out | apply below_alloc | apply pw_below_drewN | apply below_drew1 | refine below_set ?_ GE387.out) | exact HB.out)))); (case aL => have := LMc11.out; omega); intro v395 w19 ho hb hg hat; rw [← Ny394.out] at ho; have n0_ := Aside0.mk (blk_grown (g := gb387) (o := .cells #[.slice A0_0 l0_0.length c0_0, .int .i64 a0_1, .int .u8 a0_2, .int .i64 a0_3] 47 (0, 0)) (by (with_reducible repeat (first | refine blk_drewN ?_ _ | refine blk_drew ?_ | refine blk_alloc ?_ _)); exact BK387.out) hg (Kd.R_ne HO393.out BK387.out (by decide))); have n1_ := Aside0.mk (hb); have n2_ := Aside0.mk (ho); clear BK387; clear HB; clear HO393; have BK387 := n0_; have HB := n1_; have HO396 := n2_; clear n0_ n1_ n2_; clear ho hb hg hat) | (at_builtin; refine Kd.R_append_zeros (Kd.int .i64) (w0 := w) w.heap.size rfl (.tmp 43) (.tmp 44) 22 5 2 (.int .i64 0) 8 rfl Try.underlying22 Try.underlying5 info2 rfl (by decide) (by omega) v395 y394 0 (a0_2 : Int) (fun _ => True) rfl rfl rfl ?aF ?aO (of_decide_eq_true (by first | (with_reducible assumption) | assumption)) ?aB ?aS ?aL ?_; (case aB => exact (by repeat (first | (with_reducible first | exact HB.out | apply below_alloc | apply pw_below_drewN | apply below_drew1 | refine below_set ?_ GE387.out) | exact HB.out))); (case aF => exact (fun _ _ => trivial)); (case aO => exact (by (with_reducible repeat (first | apply Kd.R_alloc | apply Kd.R_drewN | apply Kd.R_drew)); exact HO396.out)); (case aS => exact (below_size (by repeat (first | (with_reducible first | exact HB.out | apply below_alloc | apply pw_below_drewN | apply below_drew1 | refine below_set ?_ GE387.out) | exact HB.out)))); (case aL => have := LMc13.out; omega); intro v398 w20 ho hb hg hat; rw [← Ny397.out] at ho; have n0_ := Aside0.mk (blk_grown (g := gb387) (o := .cells #[.slice A0_0 l0_0.length c0_0, .int .i64 a0_1, .int .u8 a0_2, .int .i64 a0_3] 47 (0, 0)) (by (with_reducible repeat (first | refine blk_drewN ?_ _ | refine blk_drew ?_ | refine blk_alloc ?_ _)); exact BK387.out) hg (Kd.R_ne HO396.out BK387.out (by decide))); have n1_ := Aside0.mk (hb); have n2_ := Aside0.mk (ho); clear BK387; clear HB; clear HO396; have BK387 := n0_; have HB := n1_; have HO399 := n2_; clear n0_ n1_ n2_; clear ho hb hg hat; obtain ⟨Ao21, co21, eo21⟩ := Kd.R_slice HO399.out; subst eo21) | (go_at_call 18; (with_reducible refine (value_Of.calls kj3 _ _ y397 a0_1 t400 t401 _ ?side1 ?side2 A14.out).mono ?_); (case side1 => repeat (first | exact (Kd.R_reads' HO399.out).2.2 | (with_reducible refine Kd.C_alloc ?_ _) | (with_reducible refine Kd.C_drewN ?_ _) | (with_reducible refine Kd.C_drew ?_))); (case side2 => exact (Kd.R_reads' HO399.out).2.1); rintro e w22 ⟨rfl, hb⟩; have n0_ := Aside0.mk (Kd.R_below (by (with_reducible repeat (first | apply Kd.R_alloc | apply Kd.R_drewN | apply Kd.R_drew)); exact HO399.out) hb); have n1_ := Aside0.mk (blk_below (g := gb387) (o := .cells #[.slice A0_0 l0_0.length c0_0, .int .i64 a0_1, .int .u8 a0_2, .int .i64 a0_3] 47 (0, 0)) (by (with_reducible repeat (first | refine blk_drewN ?_ _ | refine blk_drew ?_ | refine blk_alloc ?_ _)); exact BK387.out) hb); have n2_ := Aside0.mk (below_step (by repeat (first | (with_reducible first | exact HB.out | apply below_alloc | apply pw_below_drewN | apply below_drew1 | refine below_set ?_ GE387.out) | exact HB.out)) hb); clear HO399; clear BK387; clear HB; have HO399 := n0_; have BK387 := n1_; have HB := n2_; clear n0_ n1_ n2_; (try clear hb); (try clear hb2); (try clear hk); (try clear hi))); go_upto_region 8 with (first | (go_at_call 18; (with_reducible refine (value_Of.calls kj3 _ _ l0_0 a0_1 t389 t390 _ ?side1 ?side2 A10.out).mono ?_); (case side1 => repeat (first | exact (Kd.C_below HR0_0.out HB.out) | (with_reducible refine Kd.C_alloc ?_ _) | (with_reducible refine Kd.C_drewN ?_ _) | (with_reducible refine Kd.C_drew ?_))); (case side2 => exact HC0_0.out); rintro e w16 ⟨rfl, hb⟩; have n0_ := Aside0.mk (blk_below (g := gb387) (o := .cells #[.slice A0_0 l0_0.length c0_0, .int .i64 a0_1, .int .u8 a0_2, .int .i64 a0_3] 47 (0, 0)) (by (with_reducible repeat (first | refine blk_drewN ?_ _ | refine blk_drew ?_ | refine blk_alloc ?_ _)); exact BK387.out) hb); have n1_ := Aside0.mk (below_step (by repeat (first | (with_reducible first | exact HB.out | apply below_alloc | apply pw_below_drewN | apply below_drew1 | refine below_set ?_ GE387.out) | exact HB.out)) hb); clear BK387; clear HB; have BK387 := n0_; have HB := n1_; clear n0_ n1_; (try clear hb); (try clear hb2); (try clear hk); (try clear hi)) | ((with_reducible refine gate_dst (N := 41) rfl ?_); refine Kd.R_lit (Kd.int .i64) _ 2 ?hg (N := 41) ?hd (xs := ([] : List Int)) (inner := []) (ok := fun _ => True) (okp := fun _ => True) ?hr ?hp (fun _ hk => hk) trivial (Below.refl _ _) (Nat.le_refl _) (by simp) ?_; (case hd => rfl); (case hg => rfl); (case hr => first | (go_simp; done) | (go_simp; rfl)); (case hp => exact (Reps.none _ _)); intro v392 w17 ho18 hb hg_ hnew_; clear hg_ hnew_; (first | rw [← Ny391.out] at ho18 | (simp only [Int.reduceToNat] at ho18; rw [← Ny391.out] at ho18)); have n0_ := Aside0.mk (Kd.R_lower ho18 (below_size (by repeat (first | (with_reducible first | exact HB.out | apply below_alloc | apply pw_below_drewN | apply below_drew1 | refine below_set ?_ GE387.out) | exact HB.out)))); have n1_ := Aside0.mk (blk_below (g := gb387) (o := .cells #[.slice A0_0 l0_0.length c0_0, .int .i64 a0_1, .int .u8 a0_2, .int .i64 a0_3] 47 (0, 0)) (by (with_reducible repeat (first | refine blk_drewN ?_ _ | refine blk_drew ?_ | refine blk_alloc ?_ _)); exact BK387.out) hb); have n2_ := Aside0.mk (below_step (by repeat (first | (with_reducible first | exact HB.out | apply below_alloc | apply pw_below_drewN | apply below_drew1 | refine below_set ?_ GE387.out) | exact HB.out)) hb); clear BK387; clear HB; have HO393 := n0_; have BK387 := n1_; have HB := n2_; clear n0_ n1_ n2_; clear hb ho18) | ((with_reducible refine gate_builtin (b := .append) (xs := #[.tmp 41, .tmp 42]) rfl ?_); at_builtin; refine Kd.R_append_rows (Kd.int .i64) (w0 := w) w.heap.size rfl (.tmp 41) (.tmp 42) 22 2 (.int .i64 0) 8 rfl Try.underlying22 info2 rfl (by decide) (by omega) v392 y391 l0_0 _ _ _ (fun _ => True) (fun _ => False) rfl rfl ?aO ?aR (fun _ _ h => h) (fun _ h => h.elim) ?aF ?aB ?aS ?aL ?_; (case aR => repeat (first | exact (Kd.C_below HR0_0.out HB.out) | (with_reducible refine Kd.C_alloc ?_ _) | (with_reducible refine Kd.C_drewN ?_ _) | (with_reducible refine Kd.C_drew ?_))); (case aB => exact (by repeat (first | (with_reducible first | exact HB.out | apply below_alloc | apply pw_below_drewN | apply below_drew1 | refine below_set ?_ GE387.out) | exact HB.out))); (case aF => exact (fun _ _ => trivial)); (case aO => exact (by (with_reducible repeat (first | apply Kd.R_alloc | apply Kd.R_drewN | apply Kd.R_drew)); exact HO393.out)); (case aS => exact (below_size (by repeat (first | (with_reducible first | exact HB.out | apply below_alloc | apply pw_below_drewN | apply below_drew1 | refine below_set ?_ GE387.out) | exact HB.out)))); (case aL => have := LMc11.out; omega); intro v395 w19 ho hb hg hat; rw [← Ny394.out] at ho; have n0_ := Aside0.mk (blk_grown (g := gb387) (o := .cells #[.slice A0_0 l0_0.length c0_0, .int .i64 a0_1, .int .u8 a0_2, .int .i64 a0_3] 47 (0, 0)) (by (with_reducible repeat (first | refine blk_drewN ?_ _ | refine blk_drew ?_ | refine blk_alloc ?_ _)); exact BK387.out) hg (Kd.R_ne HO393.out BK387.out (by decide))); have n1_ := Aside0.mk (hb); have n2_ := Aside0.mk (ho); clear BK387; clear HB; clear HO393; have BK387 := n0_; have HB := n1_; have HO396 := n2_; clear n0_ n1_ n2_; clear ho hb hg hat) | (at_builtin; refine Kd.R_append_zeros (Kd.int .i64) (w0 := w) w.heap.size rfl (.tmp 43) (.tmp 44) 22 5 2 (.int .i64 0) 8 rfl Try.underlying22 Try.underlying5 info2 rfl (by decide) (by omega) v395 y394 0 (a0_2 : Int) (fun _ => True) rfl rfl rfl ?aF ?aO (of_decide_eq_true (by first | (with_reducible assumption) | assumption)) ?aB ?aS ?aL ?_; (case aB => exact (by repeat (first | (with_reducible first | exact HB.out | apply below_alloc | apply pw_below_drewN | apply below_drew1 | refine below_set ?_ GE387.out) | exact HB.out))); (case aF => exact (fun _ _ => trivial)); (case aO => exact (by (with_reducible repeat (first | apply Kd.R_alloc | apply Kd.R_drewN | apply Kd.R_drew)); exact HO396.out)); (case aS => exact (below_size (by repeat (first | (with_reducible first | exact HB.out | apply below_alloc | apply pw_below_drewN | apply below_drew1 | refine below_set ?_ GE387.out) | exact HB.out)))); (case aL => have := LMc13.out; omega); intro v398 w20 ho hb hg hat; rw [← Ny397.out] at ho; have n0_ := Aside0.mk (blk_grown (g := gb387) (o := .cells #[.slice A0_0 l0_0.length c0_0, .int .i64 a0_1, .int .u8 a0_2, .int .i64 a0_3] 47 (0, 0)) (by (with_reducible repeat (first | refine blk_drewN ?_ _ | refine blk_drew ?_ | refine blk_alloc ?_ _)); exact BK387.out) hg (Kd.R_ne HO396.out BK387.out (by decide))); have n1_ := Aside0.mk (hb); have n2_ := Aside0.mk (ho); clear BK387; clear HB; clear HO396; have BK387 := n0_; have HB := n1_; have HO399 := n2_; clear n0_ n1_ n2_; clear ho hb hg hat; obtain ⟨Ao21, co21, eo21⟩ := Kd.R_slice HO399.out; subst eo21) | (go_at_call 18; (with_reducible refine (value_Of.calls kj3 _ _ y397 a0_1 t400 t401 _ ?side1 ?side2 A14.out).mono ?_); (case side1 => repeat (first | exact (Kd.R_reads' HO399.out).2.2 | (with_reducible refine Kd.C_alloc ?_ _) | (with_reducible refine Kd.C_drewN ?_ _) | (with_reducible refine Kd.C_drew ?_))); (case side2 => exact (Kd.R_reads' HO399.out).2.1); rintro e w22 ⟨rfl, hb⟩; have n0_ := Aside0.mk (Kd.R_below (by (with_reducible repeat (first | apply Kd.R_alloc | apply Kd.R_drewN | apply Kd.R_drew)); exact HO399.out) hb); have n1_ := Aside0.mk (blk_below (g := gb387) (o := .cells #[.slice A0_0 l0_0.length c0_0, .int .i64 a0_1, .int .u8 a0_2, .int .i64 a0_3] 47 (0, 0)) (by (with_reducible repeat (first | refine blk_drewN ?_ _ | refine blk_drew ?_ | refine blk_alloc ?_ _)); exact BK387.out) hb); have n2_ := Aside0.mk (below_step (by repeat (first | (with_reducible first | exact HB.out | apply below_alloc | apply pw_below_drewN | apply below_drew1 | refine below_set ?_ GE387.out) | exact HB.out)) hb); clear HO399; clear BK387; clear HB; have HO399 := n0_; have BK387 := n1_; have HB := n2_; clear n0_ n1_ n2_; (try clear hb); (try clear hb2); (try clear hk); (try clear hi))))
                (try simp only [Act.put, List.setIfInBounds_toArray, List.set_cons_zero, List.set_cons_succ])
                go_cut [57] (fun v57 wc => ∃ (kq : Nat) (x57_14 : Bool), v57 = .bool x57_14 ∧ Aside0 (lombardlaw09_ValueEnds.j1 kq a0_1 a0_2 a0_3 x57_14 = some r) ∧ Aside0 (kq ≤ kj3) ∧ Aside0 (wc.heap[gb387]? = some (.cells #[(.slice A0_0 l0_0.length c0_0), .int .i64 a0_1, .int .u8 a0_2, .int .i64 a0_3] 47 (0, 0))) ∧ Aside0 (Below w.heap.size w wc))
                case first =>
                  have H := HC15.out
                  clear HC15
                  by_cases c23 : t389 = t400
                  · rw [if_pos c23] at H
                    have c23b0 : (t389 == t400) = true := beq_iff_eq.mpr c23
                    have c23b1 : (t389 != t400) = false := bne_eq_false_iff_eq.mpr c23
                    clear c23
                    (first | rw [c23b0] | (simp only [i64_w, i32_w]; rw [c23b0]) | skip)
                    have H' := Aside0.mk H
                    clear H
                    go_wp2
                    repeat (go_quiet (fail); try go_wp2)
                    go_meet
                    case rel => exact ⟨_, ((t390 != t401)), (by first | rfl | (simp; done) | (simp [*]; done)), H', ⟨by have := HJ3.out; first | omega | exact Nat.le_refl _⟩, ⟨by (with_reducible repeat (first | refine blk_drewN ?_ _ | refine blk_drew ?_ | refine blk_alloc ?_ _)); exact BK387.out⟩, ⟨by repeat (first | (with_reducible first | exact HB.out | apply below_alloc | apply pw_below_drewN | apply below_drew1 | refine below_set ?_ GE387.out) | exact HB.out)⟩⟩
                  · rw [if_neg c23] at H
                    have c23b0 : (t389 == t400) = false := beq_eq_false_iff_ne.mpr c23
                    have c23b1 : (t389 != t400) = true := bne_iff_ne.mpr c23
                    (first | rw [c23b0] | (simp only [i64_w, i32_w]; rw [c23b0]) | skip)
                    have H' := Aside0.mk H
                    clear H
                    go_wp2
                    repeat (go_quiet (fail); try go_wp2)
                    go_meet
                    case rel => exact ⟨_, (true), (by first | rfl | (simp; done) | (simp [*]; done)), H', ⟨by have := HJ3.out; first | omega | exact Nat.le_refl _⟩, ⟨by (with_reducible repeat (first | refine blk_drewN ?_ _ | refine blk_drew ?_ | refine blk_alloc ?_ _)); exact BK387.out⟩, ⟨by repeat (first | (with_reducible first | exact HB.out | apply below_alloc | apply pw_below_drewN | apply below_drew1 | refine below_set ?_ GE387.out) | exact HB.out)⟩⟩
                case rest =>
                  clear HC15
                  try clear c1
                  try clear c2
                  try clear p2
                  try clear c3
                  try clear c7
                  try clear c8
                  try clear c8b0
                  try clear c8b1
                  try clear c9
                  try clear c11
                  try clear c12
                  try clear c12b0
                  try clear c12b1
                  try clear c13
                  try clear c23
                  try clear c23b0
                  try clear c23b1
                  try clear hcz7_0
                  try clear hcz7_1
                  try clear hcz7_2
                  try clear hcz7_3
                  try clear hfz7_0
                  try clear hfz7_1
                  try clear hfz7_2
                  try clear hfz7_3
                  try clear p2
                  obtain ⟨kq, x57_14, rfl, HA, HJ14, BK387, HB⟩ := hcut
                  cases kq with
                  | zero => exact absurd HA.out (by simp [lombardlaw09_ValueEnds.j1])
                  | succ kj14 =>
                    have H := HA.out
                    clear HA
                    simp only [lombardlaw09_ValueEnds.j1] at H
                    by_cases c24 : x57_14 = true
                    · subst c24
                      have H1 : (some false) = some r := by rw [if_pos rfl] at H; exact H
                      clear H
                      have H := H1
                      clear H1
                      obtain rfl := Option.some.inj H
                      go_wp2
                      repeat (go_quiet (fail); try go_wp2)
                      go_ret
                      exact ⟨by first | rfl | (simp [errW_none, errW_some] <;> rfl) | (simp [*, errW_none, errW_some] <;> rfl), by repeat (first | (with_reducible first | exact HB.out | apply below_alloc | apply pw_below_drewN | apply below_drew1 | refine below_set ?_ GE387.out) | exact HB.out)⟩
                    · replace c24 := Bool.eq_false_iff.mpr c24
                      subst c24
                      have H1 : (if 0 ≤ a0_2 then (if (a0_2 : Int).toNat ≤ 35184372088832 then ((some (List.replicate (a0_2 : Int).toNat 0 : List Int)).bind fun y402 => (if y402.length < 17592186044416 then ((value_Of.f kj14 (y402 ++ [a0_3]) a0_1).bind fun bt408 => (if 0 ≤ (wrap64 ((wrap64 (a0_2)) + 1)) then (if (wrap64 ((wrap64 (a0_2)) + 1) : Int).toNat ≤ 35184372088832 then ((some (List.replicate (wrap64 ((wrap64 (a0_2)) + 1) : Int).toNat 0 : List Int)).bind fun y410 => (if y410.length < 17592186044416 then ((value_Of.f kj14 (y410 ++ [a0_3]) a0_1).bind fun bt416 => (if bt408.2 = 0 then ((rate_Discount.f kj14 bt408.1 a0_1).bind fun bt418 => (if bt416.2 = 0 then (if bt418.2 = 0 then (some (bt418.1 == bt416.1)) else (some false)) else (some (bt416.2 == 3)))) else (some (bt416.2 == bt408.2)))) else (none))) else (none)) else (none))) else (none))) else (none)) else (none)) = some r := by rw [if_neg (show ¬ (false = true) by decide)] at H; exact H
                      clear H
                      have H := H1
                      clear H1
                      by_cases c25 : 0 ≤ a0_2
                      · rw [if_pos c25] at H
                        have c25b0 := eq_true c25
                        have c25b1 : decide (0 ≤ a0_2) = true := decide_eq_true c25
                        clear c25
                        by_cases c26 : (a0_2 : Int).toNat ≤ 35184372088832
                        · rw [if_pos c26] at H
                          have c26b0 := eq_true c26
                          have c26b1 : decide ((a0_2 : Int).toNat ≤ 35184372088832) = true := decide_eq_true c26
                          clear c26
                          obtain ⟨y402, hy402⟩ : ∃ y_ : List Int, y_ = (List.replicate (a0_2 : Int).toNat 0) := ⟨_, rfl⟩
                          replace H : (if y402.length < 17592186044416 then ((value_Of.f kj14 (y402 ++ [a0_3]) a0_1).bind fun bt408 => (if 0 ≤ (wrap64 ((wrap64 (a0_2)) + 1)) then (if (wrap64 ((wrap64 (a0_2)) + 1) : Int).toNat ≤ 35184372088832 then ((some (List.replicate (wrap64 ((wrap64 (a0_2)) + 1) : Int).toNat 0 : List Int)).bind fun y410 => (if y410.length < 17592186044416 then ((value_Of.f kj14 (y410 ++ [a0_3]) a0_1).bind fun bt416 => (if bt408.2 = 0 then ((rate_Discount.f kj14 bt408.1 a0_1).bind fun bt418 => (if bt416.2 = 0 then (if bt418.2 = 0 then (some (bt418.1 == bt416.1)) else (some false)) else (some (bt416.2 == 3)))) else (some (bt416.2 == bt408.2)))) else (none))) else (none)) else (none))) else (none)) = some r := by first | (rw [hy402]; with_reducible exact H) | (have H2_ := (Option.bind_some _ _).symm.trans H; rw [hy402]; with_reducible exact H2_) | (have H2_ := (Option.bind_some _ _).symm.trans H; with_reducible exact H2_) | with_reducible exact H | (rw [hy402]; exact H) | exact H
                          have Ny402 := Aside0.mk hy402
                          clear hy402
                          by_cases c27 : y402.length < 17592186044416
                          · rw [if_pos c27] at H
                            have LMc27 := Aside0.mk c27
                            clear c27
                            obtain ⟨y405, hy405⟩ : ∃ y_ : List Int, y_ = (y402 ++ [a0_3]) := ⟨_, rfl⟩
                            replace H : ((value_Of.f kj14 y405 a0_1).bind fun bt408 => (if 0 ≤ (wrap64 ((wrap64 (a0_2)) + 1)) then (if (wrap64 ((wrap64 (a0_2)) + 1) : Int).toNat ≤ 35184372088832 then ((some (List.replicate (wrap64 ((wrap64 (a0_2)) + 1) : Int).toNat 0 : List Int)).bind fun y410 => (if y410.length < 17592186044416 then ((value_Of.f kj14 (y410 ++ [a0_3]) a0_1).bind fun bt416 => (if bt408.2 = 0 then ((rate_Discount.f kj14 bt408.1 a0_1).bind fun bt418 => (if bt416.2 = 0 then (if bt418.2 = 0 then (some (bt418.1 == bt416.1)) else (some false)) else (some (bt416.2 == 3)))) else (some (bt416.2 == bt408.2)))) else (none))) else (none)) else (none))) = some r := by first | (rw [hy405]; with_reducible exact H) | (have H2_ := (Option.bind_some _ _).symm.trans H; rw [hy405]; with_reducible exact H2_) | (have H2_ := (Option.bind_some _ _).symm.trans H; with_reducible exact H2_) | with_reducible exact H | (rw [hy405]; exact H) | exact H
                            have Ny405 := Aside0.mk hy405
                            clear hy405
                            replace H := Option.bind_eq_some_iff.mp H
                            obtain ⟨⟨t408, t409⟩, A280, H⟩ := H
                            replace H : (if 0 ≤ (wrap64 ((wrap64 (a0_2)) + 1)) then (if (wrap64 ((wrap64 (a0_2)) + 1) : Int).toNat ≤ 35184372088832 then ((some (List.replicate (wrap64 ((wrap64 (a0_2)) + 1) : Int).toNat 0 : List Int)).bind fun y410 => (if y410.length < 17592186044416 then ((value_Of.f kj14 (y410 ++ [a0_3]) a0_1).bind fun bt416 => (if t409 = 0 then ((rate_Discount.f kj14 t408 a0_1).bind fun bt418 => (if bt416.2 = 0 then (if bt418.2 = 0 then (some (bt418.1 == bt416.1)) else (some false)) else (some (bt416.2 == 3)))) else (some (bt416.2 == t409)))) else (none))) else (none)) else (none)) = some r := H
                            have A28 := Aside0.mk A280
                            clear A280
                            obtain ⟨ji29, hji29⟩ : ∃ j_ : Int, (wrap64 ((wrap64 (a0_2)) + 1)) = j_ := ⟨_, rfl⟩
                            replace H : (if 0 ≤ (ji29) then (if (ji29 : Int).toNat ≤ 35184372088832 then ((some (List.replicate (ji29 : Int).toNat 0 : List Int)).bind fun y410 => (if y410.length < 17592186044416 then ((value_Of.f kj14 (y410 ++ [a0_3]) a0_1).bind fun bt416 => (if t409 = 0 then ((rate_Discount.f kj14 t408 a0_1).bind fun bt418 => (if bt416.2 = 0 then (if bt418.2 = 0 then (some (bt418.1 == bt416.1)) else (some false)) else (some (bt416.2 == 3)))) else (some (bt416.2 == t409)))) else (none))) else (none)) else (none)) = some r := by first | (rw [hji29] at H; exact H) | (simp only [hji29] at H ⊢; exact H)
                            (try rw [hji29] at A28)
                            have hji29w : (IntKind.i64.wrap ((wrap64 (a0_2)) + 1)) = ji29 := (i64_w _).trans hji29
                            by_cases c30 : 0 ≤ (ji29)
                            · rw [if_pos c30] at H
                              have c30b0 := eq_true c30
                              have c30b1 : decide (0 ≤ (ji29)) = true := decide_eq_true c30
                              clear c30
                              by_cases c31 : (ji29 : Int).toNat ≤ 35184372088832
                              · rw [if_pos c31] at H
                                have c31b0 := eq_true c31
                                have c31b1 : decide ((ji29 : Int).toNat ≤ 35184372088832) = true := decide_eq_true c31
                                clear c31
                                obtain ⟨y410, hy410⟩ : ∃ y_ : List Int, y_ = (List.replicate (ji29 : Int).toNat 0) := ⟨_, rfl⟩
                                replace H : (if y410.length < 17592186044416 then ((value_Of.f kj14 (y410 ++ [a0_3]) a0_1).bind fun bt416 => (if t409 = 0 then ((rate_Discount.f kj14 t408 a0_1).bind fun bt418 => (if bt416.2 = 0 then (if bt418.2 = 0 then (some (bt418.1 == bt416.1)) else (some false)) else (some (bt416.2 == 3)))) else (some (bt416.2 == t409)))) else (none)) = some r := by first | (rw [hy410]; with_reducible exact H) | (have H2_ := (Option.bind_some _ _).symm.trans H; rw [hy410]; with_reducible exact H2_) | (have H2_ := (Option.bind_some _ _).symm.trans H; with_reducible exact H2_) | with_reducible exact H | (rw [hy410]; exact H) | exact H
                                have Ny410 := Aside0.mk hy410
                                clear hy410
                                by_cases c32 : y410.length < 17592186044416
                                · rw [if_pos c32] at H
                                  have LMc32 := Aside0.mk c32
                                  clear c32
                                  obtain ⟨y413, hy413⟩ : ∃ y_ : List Int, y_ = (y410 ++ [a0_3]) := ⟨_, rfl⟩
                                  replace H : ((value_Of.f kj14 y413 a0_1).bind fun bt416 => (if t409 = 0 then ((rate_Discount.f kj14 t408 a0_1).bind fun bt418 => (if bt416.2 = 0 then (if bt418.2 = 0 then (some (bt418.1 == bt416.1)) else (some false)) else (some (bt416.2 == 3)))) else (some (bt416.2 == t409)))) = some r := by first | (rw [hy413]; with_reducible exact H) | (have H2_ := (Option.bind_some _ _).symm.trans H; rw [hy413]; with_reducible exact H2_) | (have H2_ := (Option.bind_some _ _).symm.trans H; with_reducible exact H2_) | with_reducible exact H | (rw [hy413]; exact H) | exact H
                                  have Ny413 := Aside0.mk hy413
                                  clear hy413
                                  replace H := Option.bind_eq_some_iff.mp H
                                  obtain ⟨⟨t416, t417⟩, A330, H⟩ := H
                                  replace H : (if t409 = 0 then ((rate_Discount.f kj14 t408 a0_1).bind fun bt418 => (if t417 = 0 then (if bt418.2 = 0 then (some (bt418.1 == t416)) else (some false)) else (some (t417 == 3)))) else (some (t417 == t409))) = some r := H
                                  have A33 := Aside0.mk A330
                                  clear A330
                                  by_cases c34 : t409 = 0
                                  · rw [if_pos c34] at H
                                    have c34b0 : (t409 == 0) = true := beq_iff_eq.mpr c34
                                    have c34b1 : (t409 != 0) = false := bne_eq_false_iff_eq.mpr c34
                                    clear c34
                                    replace H := Option.bind_eq_some_iff.mp H
                                    obtain ⟨⟨t418, t419⟩, A350, H⟩ := H
                                    replace H : (if t417 = 0 then (if t419 = 0 then (some (t418 == t416)) else (some false)) else (some (t417 == 3))) = some r := H
                                    have A35 := Aside0.mk A350
                                    clear A350
                                    by_cases c36 : t417 = 0
                                    · rw [if_pos c36] at H
                                      have c36b0 : (t417 == 0) = true := beq_iff_eq.mpr c36
                                      have c36b1 : (t417 != 0) = false := bne_eq_false_iff_eq.mpr c36
                                      clear c36
                                      have HC37 := Aside0.mk H
                                      clear H
                                      go_upto_region 17 with (first | ((with_reducible refine gate_dst (N := 60) rfl ?_); refine Go.Proofs.Ytalnlphinlfenaa.XMake.make_any (Kd.int .i64) _ 2 rfl (N := 60) rfl 22 _ _ rfl a0_2 rfl rfl Try.underlying22 (.int .i64 0) 8 info2 rfl (by decide) (by omega) 0 (ok := fun _ => True) (okp := fun _ => True) rfl (fun _ hk => hk) trivial (of_decide_eq_true (by first | (with_reducible assumption) | assumption)) (Nat.le_trans (Nat.mul_le_mul_right _ (of_decide_eq_true (by first | (with_reducible assumption) | assumption) : a0_2.toNat ≤ 35184372088832)) (by omega)) (Below.refl _ _) (Nat.le_refl _) ?_; intro v403 w38 ho39 hb hg_ hnew_; clear hg_ hnew_; (first | rw [← Ny402.out] at ho39 | (simp only [Int.reduceToNat] at ho39; rw [← Ny402.out] at ho39)); have n0_ := Aside0.mk (Kd.R_lower ho39 (below_size (by repeat (first | (with_reducible first | exact HB.out | apply below_alloc | apply pw_below_drewN | apply below_drew1 | refine below_set ?_ GE387.out) | exact HB.out)))); have n1_ := Aside0.mk (blk_below (g := gb387) (o := .cells #[.slice A0_0 l0_0.length c0_0, .int .i64 a0_1, .int .u8 a0_2, .int .i64 a0_3] 47 (0, 0)) (by (with_reducible repeat (first | refine blk_drewN ?_ _ | refine blk_drew ?_ | refine blk_alloc ?_ _)); exact BK387.out) hb); have n2_ := Aside0.mk (below_step (by repeat (first | (with_reducible first | exact HB.out | apply below_alloc | apply pw_below_drewN | apply below_drew1 | refine below_set ?_ GE387.out) | exact HB.out)) hb); clear BK387; clear HB; have HO404 := n0_; have BK387 := n1_; have HB := n2_; clear n0_ n1_ n2_; clear hb ho39) | ((with_reducible refine gate_builtin (b := .append) (xs := #[.tmp 60, .tmp 62]) rfl ?_); at_builtin; refine Kd.R_append (Kd.int .i64) (w0 := w) w.heap.size rfl (.tmp 60) (.tmp 62) 22 2 (.int .i64 0) 8 rfl Try.underlying22 info2 rfl (by decide) (by omega) v403 y402 a0_3 [.int .i64 a0_3] (fun _ => True) (fun _ => False) rfl rfl ?aP (fun _ hk => hk.elim) ?aF ?aO ?aB ?aS ?aL ?_; (case aP => exact rfl); (case aB => exact (by repeat (first | (with_reducible first | exact HB.out | apply below_alloc | apply pw_below_drewN | apply below_drew1 | refine below_set ?_ GE387.out) | exact HB.out))); (case aF => exact (fun _ _ => trivial)); (case aO => exact (by (with_reducible repeat (first | apply Kd.R_alloc | apply Kd.R_drewN | apply Kd.R_drew)); exact HO404.out)); (case aS => exact (below_size (by repeat (first | (with_reducible first | exact HB.out | apply below_alloc | apply pw_below_drewN | apply below_drew1 | refine below_set ?_ GE387.out) | exact HB.out)))); (case aL => have := LMc27.out; omega); intro v406 w40 ho hb hg hat; rw [← Ny405.out] at ho; have n0_ := Aside0.mk (blk_grown (g := gb387) (o := .cells #[.slice A0_0 l0_0.length c0_0, .int .i64 a0_1, .int .u8 a0_2, .int .i64 a0_3] 47 (0, 0)) (by (with_reducible repeat (first | refine blk_drewN ?_ _ | refine blk_drew ?_ | refine blk_alloc ?_ _)); exact BK387.out) hg (Kd.R_ne HO404.out BK387.out (by decide))); have n1_ := Aside0.mk (hb); have n2_ := Aside0.mk (ho); clear BK387; clear HB; clear HO404; have BK387 := n0_; have HB := n1_; have HO407 := n2_; clear n0_ n1_ n2_; clear ho hb hg hat; obtain ⟨Ao41, co41, eo41⟩ := Kd.R_slice HO407.out; subst eo41) | (go_at_call 18; (with_reducible refine (value_Of.calls kj14 _ _ y405 a0_1 t408 t409 _ ?side1 ?side2 A28.out).mono ?_); (case side1 => repeat (first | exact (Kd.R_reads' HO407.out).2.2 | (with_reducible refine Kd.C_alloc ?_ _) | (with_reducible refine Kd.C_drewN ?_ _) | (with_reducible refine Kd.C_drew ?_))); (case side2 => exact (Kd.R_reads' HO407.out).2.1); rintro e w42 ⟨rfl, hb⟩; have n0_ := Aside0.mk (Kd.R_below (by (with_reducible repeat (first | apply Kd.R_alloc | apply Kd.R_drewN | apply Kd.R_drew)); exact HO407.out) hb); have n1_ := Aside0.mk (blk_below (g := gb387) (o := .cells #[.slice A0_0 l0_0.length c0_0, .int .i64 a0_1, .int .u8 a0_2, .int .i64 a0_3] 47 (0, 0)) (by (with_reducible repeat (first | refine blk_drewN ?_ _ | refine blk_drew ?_ | refine blk_alloc ?_ _)); exact BK387.out) hb); have n2_ := Aside0.mk (below_step (by repeat (first | (with_reducible first | exact HB.out | apply below_alloc | apply pw_below_drewN | apply below_drew1 | refine below_set ?_ GE387.out) | exact HB.out)) hb); clear HO407; clear BK387; clear HB; have HO407 := n0_; have BK387 := n1_; have HB := n2_; clear n0_ n1_ n2_; (try clear hb); (try clear hb2); (try clear hk); (try clear hi)) | ((with_reducible refine gate_dst (N := 72) rfl ?_); refine Go.Proofs.Ytalnlphinlfenaa.XMake.make_any (Kd.int .i64) _ 2 rfl (N := 72) rfl 22 _ _ rfl ji29 rfl rfl Try.underlying22 (.int .i64 0) 8 info2 rfl (by decide) (by omega) 0 (ok := fun _ => True) (okp := fun _ => True) rfl (fun _ hk => hk) trivial (of_decide_eq_true (by first | (with_reducible assumption) | assumption)) (Nat.le_trans (Nat.mul_le_mul_right _ (of_decide_eq_true (by first | (with_reducible assumption) | assumption) : ji29.toNat ≤ 35184372088832)) (by omega)) (Below.refl _ _) (Nat.le_refl _) ?_; intro v411 w43 ho44 hb hg_ hnew_; clear hg_ hnew_; (first | rw [← Ny410.out] at ho44 | (simp only [Int.reduceToNat] at ho44; rw [← Ny410.out] at ho44)); have n0_ := Aside0.mk (Kd.R_elder' (by (with_reducible repeat (first | apply Kd.R_alloc | apply Kd.R_drewN | apply Kd.R_drew)); exact HO407.out) (Kd.R_base ho44) hb); have n1_ := Aside0.mk (Kd.R_lower (Kd.R_new' ho44 (Kd.R_lt (by (with_reducible repeat (first | apply Kd.R_alloc | apply Kd.R_drewN | apply Kd.R_drew)); exact HO407.out))) (below_size (by repeat (first | (with_reducible first | exact HB.out | apply below_alloc | apply pw_below_drewN | apply below_drew1 | refine below_set ?_ GE387.out) | exact HB.out)))); have n2_ := Aside0.mk (blk_below (g := gb387) (o := .cells #[.slice A0_0 l0_0.length c0_0, .int .i64 a0_1, .int .u8 a0_2, .int .i64 a0_3] 47 (0, 0)) (by (with_reducible repeat (first | refine blk_drewN ?_ _ | refine blk_drew ?_ | refine blk_alloc ?_ _)); exact BK387.out) hb); have n3_ := Aside0.mk (below_step (by repeat (first | (with_reducible first | exact HB.out | apply below_alloc | apply pw_below_drewN | apply below_drew1 | refine below_set ?_ GE387.out) | exact HB.out)) hb); clear HO407; clear BK387; clear HB; have HO407 := n0_; have HO412 := n1_; have BK387 := n2_; have HB := n3_; clear n0_ n1_ n2_ n3_; clear hb ho44) | ((with_reducible refine gate_builtin (b := .append) (xs := #[.tmp 72, .tmp 74]) rfl ?_); at_builtin; refine Kd.R_append (Kd.int .i64) (w0 := w) w.heap.size rfl (.tmp 72) (.tmp 74) 22 2 (.int .i64 0) 8 rfl Try.underlying22 info2 rfl (by decide) (by omega) v411 y410 a0_3 [.int .i64 a0_3] (fun k_ => some k_ ≠ (.slice Ao41 y405.length co41 : Value).ownBlock) (fun _ => False) rfl rfl ?aP (fun _ hk => hk.elim) ?aF ?aO ?aB ?aS ?aL ?_; (case aP => exact rfl); (case aB => exact (by repeat (first | (with_reducible first | exact HB.out | apply below_alloc | apply pw_below_drewN | apply below_drew1 | refine below_set ?_ GE387.out) | exact HB.out))); (case aF => exact (fun k_ hk => Kd.fresh' (Kd.R_lt (by (with_reducible repeat (first | apply Kd.R_alloc | apply Kd.R_drewN | apply Kd.R_drew)); exact HO407.out)) k_ hk)); (case aO => exact (by (with_reducible repeat (first | apply Kd.R_alloc | apply Kd.R_drewN | apply Kd.R_drew)); exact Kd.R_mono HO412.out (fun _ hk => hk.2))); (case aS => exact (below_size (by repeat (first | (with_reducible first | exact HB.out | apply below_alloc | apply pw_below_drewN | apply below_drew1 | refine below_set ?_ GE387.out) | exact HB.out)))); (case aL => have := LMc32.out; omega); intro v414 w45 ho hb hg hat; rw [← Ny413.out] at ho; have n0_ := Aside0.mk (blk_grown (g := gb387) (o := .cells #[.slice A0_0 l0_0.length c0_0, .int .i64 a0_1, .int .u8 a0_2, .int .i64 a0_3] 47 (0, 0)) (by (with_reducible repeat (first | refine blk_drewN ?_ _ | refine blk_drew ?_ | refine blk_alloc ?_ _)); exact BK387.out) hg (Kd.R_ne HO412.out BK387.out (by decide))); have n1_ := Aside0.mk (Kd.R_after (ok := (fun _ => True)) (by (with_reducible repeat (first | apply Kd.R_alloc | apply Kd.R_drewN | apply Kd.R_drew)); exact HO407.out) hg hat); have n2_ := Aside0.mk (hb); have n3_ := Aside0.mk (ho); clear BK387; clear HO407; clear HB; clear HO412; have BK387 := n0_; have HO407 := n1_; have HB := n2_; have HO415 := n3_; clear n0_ n1_ n2_ n3_; clear ho hb hg hat; obtain ⟨Ao46, co46, eo46⟩ := Kd.R_slice HO415.out; subst eo46) | (go_at_call 18; (with_reducible refine (value_Of.calls kj14 _ _ y413 a0_1 t416 t417 _ ?side1 ?side2 A33.out).mono ?_); (case side1 => repeat (first | exact (Kd.R_reads' HO415.out).2.2 | (with_reducible refine Kd.C_alloc ?_ _) | (with_reducible refine Kd.C_drewN ?_ _) | (with_reducible refine Kd.C_drew ?_))); (case side2 => exact (Kd.R_reads' HO415.out).2.1); rintro e w47 ⟨rfl, hb⟩; have n0_ := Aside0.mk (Kd.R_below (by (with_reducible repeat (first | apply Kd.R_alloc | apply Kd.R_drewN | apply Kd.R_drew)); exact HO407.out) hb); have n1_ := Aside0.mk (Kd.R_below (by (with_reducible repeat (first | apply Kd.R_alloc | apply Kd.R_drewN | apply Kd.R_drew)); exact HO415.out) hb); have n2_ := Aside0.mk (blk_below (g := gb387) (o := .cells #[.slice A0_0 l0_0.length c0_0, .int .i64 a0_1, .int .u8 a0_2, .int .i64 a0_3] 47 (0, 0)) (by (with_reducible repeat (first | refine blk_drewN ?_ _ | refine blk_drew ?_ | refine blk_alloc ?_ _)); exact BK387.out) hb); have n3_ := Aside0.mk (below_step (by repeat (first | (with_reducible first | exact HB.out | apply below_alloc | apply pw_below_drewN | apply below_drew1 | refine below_set ?_ GE387.out) | exact HB.out)) hb); clear HO407; clear HO415; clear BK387; clear HB; have HO407 := n0_; have HO415 := n1_; have BK387 := n2_; have HB := n3_; clear n0_ n1_ n2_ n3_; (try clear hb); (try clear hb2); (try clear hk); (try clear hi)) | (go_at_call 19; (with_reducible refine (rate_Discount.calls kj14 t408 a0_1 t418 t419 _ A35.out).mono ?_); rintro e w48 ⟨rfl, hb⟩; have n0_ := Aside0.mk (Kd.R_below (by (with_reducible repeat (first | apply Kd.R_alloc | apply Kd.R_drewN | apply Kd.R_drew)); exact HO407.out) hb); have n1_ := Aside0.mk (Kd.R_below (by (with_reducible repeat (first | apply Kd.R_alloc | apply Kd.R_drewN | apply Kd.R_drew)); exact HO415.out) hb); have n2_ := Aside0.mk (blk_below (g := gb387) (o := .cells #[.slice A0_0 l0_0.length c0_0, .int .i64 a0_1, .int .u8 a0_2, .int .i64 a0_3] 47 (0, 0)) (by (with_reducible repeat (first | refine blk_drewN ?_ _ | refine blk_drew ?_ | refine blk_alloc ?_ _)); exact BK387.out) hb); have n3_ := Aside0.mk (below_step (by repeat (first | (with_reducible first | exact HB.out | apply below_alloc | apply pw_below_drewN | apply below_drew1 | refine below_set ?_ GE387.out) | exact HB.out)) hb); clear HO407; clear HO415; clear BK387; clear HB; have HO407 := n0_; have HO415 := n1_; have BK387 := n2_; have HB := n3_; clear n0_ n1_ n2_ n3_; (try clear hb); (try clear hb2); (try clear hk); (try clear hi)))
                                      repeat (go_quiet (first | ((with_reducible refine gate_dst (N := 60) rfl ?_); refine Go.Proofs.Ytalnlphinlfenaa.XMake.make_any (Kd.int .i64) _ 2 rfl (N := 60) rfl 22 _ _ rfl a0_2 rfl rfl Try.underlying22 (.int .i64 0) 8 info2 rfl (by decide) (by omega) 0 (ok := fun _ => True) (okp := fun _ => True) rfl (fun _ hk => hk) trivial (of_decide_eq_true (by first | (with_reducible assumption) | assumption)) (Nat.le_trans (Nat.mul_le_mul_right _ (of_decide_eq_true (by first | (with_reducible assumption) | assumption) : a0_2.toNat ≤ 35184372088832)) (by omega)) (Below.refl _ _) (Nat.le_refl _) ?_; intro v403 w38 ho39 hb hg_ hnew_; clear hg_ hnew_; (first | rw [← Ny402.out] at ho39 | (simp only [Int.reduceToNat] at ho39; rw [← Ny402.out] at ho39)); have n0_ := Aside0.mk (Kd.R_lower ho39 (below_size (by repeat (first | (with_reducible first | exact HB.out | apply below_alloc | apply pw_below_drewN | apply below_drew1 | refine below_set ?_ GE387.out) | exact HB.out)))); have n1_ := Aside0.mk (blk_below (g := gb387) (o := .cells #[.slice A0_0 l0_0.length c0_0, .int .i64 a0_1, .int .u8 a0_2, .int .i64 a0_3] 47 (0, 0)) (by (with_reducible repeat (first | refine blk_drewN ?_ _ | refine blk_drew ?_ | refine blk_alloc ?_ _)); exact BK387.out) hb); have n2_ := Aside0.mk (below_step (by repeat (first | (with_reducible first | exact HB.out | apply below_alloc | apply pw_below_drewN | apply below_drew1 | refine below_set ?_ GE387.out) | exact HB.out)) hb); clear BK387; clear HB; have HO404 := n0_; have BK387 := n1_; have HB := n2_; clear n0_ n1_ n2_; clear hb ho39) | ((with_reducible refine gate_builtin (b := .append) (xs := #[.tmp 60, .tmp 62]) rfl ?_); at_builtin; refine Kd.R_append (Kd.int .i64) (w0 := w) w.heap.size rfl (.tmp 60) (.tmp 62) 22 2 (.int .i64 0) 8 rfl Try.underlying22 info2 rfl (by decide) (by omega) v403 y402 a0_3 [.int .i64 a0_3] (fun _ => True) (fun _ => False) rfl rfl ?aP (fun _ hk => hk.elim) ?aF ?aO ?aB ?aS ?aL ?_; (case aP => exact rfl); (case aB => exact (by repeat (first | (with_reducible first | exact HB.out | apply below_alloc | apply pw_below_drewN | apply below_drew1 | refine below_set ?_ GE387.out) | exact HB.out))); (case aF => exact (fun _ _ => trivial)); (case aO => exact (by (with_reducible repeat (first | apply Kd.R_alloc | apply Kd.R_drewN | apply Kd.R_drew)); exact HO404.out)); (case aS => exact (below_size (by repeat (first | (with_reducible first | exact HB.out | apply below_alloc | apply pw_below_drewN | apply below_drew1 | refine below_set ?_ GE387.out) | exact HB.out)))); (case aL => have := LMc27.out; omega); intro v406 w40 ho hb hg hat; rw [← Ny405.out] at ho; have n0_ := Aside0.mk (blk_grown (g := gb387) (o := .cells #[.slice A0_0 l0_0.length c0_0, .int .i64 a0_1, .int .u8 a0_2, .int .i64 a0_3] 47 (0, 0)) (by (with_reducible repeat (first | refine blk_drewN ?_ _ | refine blk_drew ?_ | refine blk_alloc ?_ _)); exact BK387.out) hg (Kd.R_ne HO404.out BK387.out (by decide))); have n1_ := Aside0.mk (hb); have n2_ := Aside0.mk (ho); clear BK387; clear HB; clear HO404; have BK387 := n0_; have HB := n1_; have HO407 := n2_; clear n0_ n1_ n2_; clear ho hb hg hat; obtain ⟨Ao41, co41, eo41⟩ := Kd.R_slice HO407.out; subst eo41) | (go_at_call 18; (with_reducible refine (value_Of.calls kj14 _ _ y405 a0_1 t408 t409 _ ?side1 ?side2 A28.out).mono ?_); (case side1 => repeat (first | exact (Kd.R_reads' HO407.out).2.2 | (with_reducible refine Kd.C_alloc ?_ _) | (with_reducible refine Kd.C_drewN ?_ _) | (with_reducible refine Kd.C_drew ?_))); (case side2 => exact (Kd.R_reads' HO407.out).2.1); rintro e w42 ⟨rfl, hb⟩; have n0_ := Aside0.mk (Kd.R_below (by (with_reducible repeat (first | apply Kd.R_alloc | apply Kd.R_drewN | apply Kd.R_drew)); exact HO407.out) hb); have n1_ := Aside0.mk (blk_below (g := gb387) (o := .cells #[.slice A0_0 l0_0.length c0_0, .int .i64 a0_1, .int .u8 a0_2, .int .i64 a0_3] 47 (0, 0)) (by (with_reducible repeat (first | refine blk_drewN ?_ _ | refine blk_drew ?_ | refine blk_alloc ?_ _)); exact BK387.out) hb); have n2_ := Aside0.mk (below_step (by repeat (first | (with_reducible first | exact HB.out | apply below_alloc | apply pw_below_drewN | apply below_drew1 | refine below_set ?_ GE387.out) | exact HB.out)) hb); clear HO407; clear BK387; clear HB; have HO407 := n0_; have BK387 := n1_; have HB := n2_; clear n0_ n1_ n2_; (try clear hb); (try clear hb2); (try clear hk); (try clear hi)) | ((with_reducible refine gate_dst (N := 72) rfl ?_); refine Go.Proofs.Ytalnlphinlfenaa.XMake.make_any (Kd.int .i64) _ 2 rfl (N := 72) rfl 22 _ _ rfl ji29 rfl rfl Try.underlying22 (.int .i64 0) 8 info2 rfl (by decide) (by omega) 0 (ok := fun _ => True) (okp := fun _ => True) rfl (fun _ hk => hk) trivial (of_decide_eq_true (by first | (with_reducible assumption) | assumption)) (Nat.le_trans (Nat.mul_le_mul_right _ (of_decide_eq_true (by first | (with_reducible assumption) | assumption) : ji29.toNat ≤ 35184372088832)) (by omega)) (Below.refl _ _) (Nat.le_refl _) ?_; intro v411 w43 ho44 hb hg_ hnew_; clear hg_ hnew_; (first | rw [← Ny410.out] at ho44 | (simp only [Int.reduceToNat] at ho44; rw [← Ny410.out] at ho44)); have n0_ := Aside0.mk (Kd.R_elder' (by (with_reducible repeat (first | apply Kd.R_alloc | apply Kd.R_drewN | apply Kd.R_drew)); exact HO407.out) (Kd.R_base ho44) hb); have n1_ := Aside0.mk (Kd.R_lower (Kd.R_new' ho44 (Kd.R_lt (by (with_reducible repeat (first | apply Kd.R_alloc | apply Kd.R_drewN | apply Kd.R_drew)); exact HO407.out))) (below_size (by repeat (first | (with_reducible first | exact HB.out | apply below_alloc | apply pw_below_drewN | apply below_drew1 | refine below_set ?_ GE387.out) | exact HB.out)))); have n2_ := Aside0.mk (blk_below (g := gb387) (o := .cells #[.slice A0_0 l0_0.length c0_0, .int .i64 a0_1, .int .u8 a0_2, .int .i64 a0_3] 47 (0, 0)) (by (with_reducible repeat (first | refine blk_drewN ?_ _ | refine blk_drew ?_ | refine blk_alloc ?_ _)); exact BK387.out) hb); have n3_ := Aside0.mk (below_step (by repeat (first | (with_reducible first | exact HB.out | apply below_alloc | apply pw_below_drewN | apply below_drew1 | refine below_set ?_ GE387.out) | exact HB.out)) hb); clear HO407; clear BK387; clear HB; have HO407 := n0_; have HO412 := n1_; have BK387 := n2_; have HB := n3_; clear n0_ n1_ n2_ n3_; clear hb ho44) | ((with_reducible refine gate_builtin (b := .append) (xs := #[.tmp 72, .tmp 74]) rfl ?_); at_builtin; refine Kd.R_append (Kd.int .i64) (w0 := w) w.heap.size rfl (.tmp 72) (.tmp 74) 22 2 (.int .i64 0) 8 rfl Try.underlying22 info2 rfl (by decide) (by omega) v411 y410 a0_3 [.int .i64 a0_3] (fun k_ => some k_ ≠ (.slice Ao41 y405.length co41 : Value).ownBlock) (fun _ => False) rfl rfl ?aP (fun _ hk => hk.elim) ?aF ?aO ?aB ?aS ?aL ?_; (case aP => exact rfl); (case aB => exact (by repeat (first | (with_reducible first | exact HB.out | apply below_alloc | apply pw_below_drewN | apply below_drew1 | refine below_set ?_ GE387.out) | exact HB.out))); (case aF => exact (fun k_ hk => Kd.fresh' (Kd.R_lt (by (with_reducible repeat (first | apply Kd.R_alloc | apply Kd.R_drewN | apply Kd.R_drew)); exact HO407.out)) k_ hk)); (case aO => exact (by (with_reducible repeat (first | apply Kd.R_alloc | apply Kd.R_drewN | apply Kd.R_drew)); exact Kd.R_mono HO412.out (fun _ hk => hk.2))); (case aS => exact (below_size (by repeat (first | (with_reducible first | exact HB.out | apply below_alloc | apply pw_below_drewN | apply below_drew1 | refine below_set ?_ GE387.out) | exact HB.out)))); (case aL => have := LMc32.out; omega); intro v414 w45 ho hb hg hat; rw [← Ny413.out] at ho; have n0_ := Aside0.mk (blk_grown (g := gb387) (o := .cells #[.slice A0_0 l0_0.length c0_0, .int .i64 a0_1, .int .u8 a0_2, .int .i64 a0_3] 47 (0, 0)) (by (with_reducible repeat (first | refine blk_drewN ?_ _ | refine blk_drew ?_ | refine blk_alloc ?_ _)); exact BK387.out) hg (Kd.R_ne HO412.out BK387.out (by decide))); have n1_ := Aside0.mk (Kd.R_after (ok := (fun _ => True)) (by (with_reducible repeat (first | apply Kd.R_alloc | apply Kd.R_drewN | apply Kd.R_drew)); exact HO407.out) hg hat); have n2_ := Aside0.mk (hb); have n3_ := Aside0.mk (ho); clear BK387; clear HO407; clear HB; clear HO412; have BK387 := n0_; have HO407 := n1_; have HB := n2_; have HO415 := n3_; clear n0_ n1_ n2_ n3_; clear ho hb hg hat; obtain ⟨Ao46, co46, eo46⟩ := Kd.R_slice HO415.out; subst eo46) | (go_at_call 18; (with_reducible refine (value_Of.calls kj14 _ _ y413 a0_1 t416 t417 _ ?side1 ?side2 A33.out).mono ?_); (case side1 => repeat (first | exact (Kd.R_reads' HO415.out).2.2 | (with_reducible refine Kd.C_alloc ?_ _) | (with_reducible refine Kd.C_drewN ?_ _) | (with_reducible refine Kd.C_drew ?_))); (case side2 => exact (Kd.R_reads' HO415.out).2.1); rintro e w47 ⟨rfl, hb⟩; have n0_ := Aside0.mk (Kd.R_below (by (with_reducible repeat (first | apply Kd.R_alloc | apply Kd.R_drewN | apply Kd.R_drew)); exact HO407.out) hb); have n1_ := Aside0.mk (Kd.R_below (by (with_reducible repeat (first | apply Kd.R_alloc | apply Kd.R_drewN | apply Kd.R_drew)); exact HO415.out) hb); have n2_ := Aside0.mk (blk_below (g := gb387) (o := .cells #[.slice A0_0 l0_0.length c0_0, .int .i64 a0_1, .int .u8 a0_2, .int .i64 a0_3] 47 (0, 0)) (by (with_reducible repeat (first | refine blk_drewN ?_ _ | refine blk_drew ?_ | refine blk_alloc ?_ _)); exact BK387.out) hb); have n3_ := Aside0.mk (below_step (by repeat (first | (with_reducible first | exact HB.out | apply below_alloc | apply pw_below_drewN | apply below_drew1 | refine below_set ?_ GE387.out) | exact HB.out)) hb); clear HO407; clear HO415; clear BK387; clear HB; have HO407 := n0_; have HO415 := n1_; have BK387 := n2_; have HB := n3_; clear n0_ n1_ n2_ n3_; (try clear hb); (try clear hb2); (try clear hk); (try clear hi)) | (go_at_call 19; (with_reducible refine (rate_Discount.calls kj14 t408 a0_1 t418 t419 _ A35.out).mono ?_); rintro e w48 ⟨rfl, hb⟩; have n0_ := Aside0.mk (Kd.R_below (by (with_reducible repeat (first | apply Kd.R_alloc | apply Kd.R_drewN | apply Kd.R_drew)); exact HO407.out) hb); have n1_ := Aside0.mk (Kd.R_below (by (with_reducible repeat (first | apply Kd.R_alloc | apply Kd.R_drewN | apply Kd.R_drew)); exact HO415.out) hb); have n2_ := Aside0.mk (blk_below (g := gb387) (o := .cells #[.slice A0_0 l0_0.length c0_0, .int .i64 a0_1, .int .u8 a0_2, .int .i64 a0_3] 47 (0, 0)) (by (with_reducible repeat (first | refine blk_drewN ?_ _ | refine blk_drew ?_ | refine blk_alloc ?_ _)); exact BK387.out) hb); have n3_ := Aside0.mk (below_step (by repeat (first | (with_reducible first | exact HB.out | apply below_alloc | apply pw_below_drewN | apply below_drew1 | refine below_set ?_ GE387.out) | exact HB.out)) hb); clear HO407; clear HO415; clear BK387; clear HB; have HO407 := n0_; have HO415 := n1_; have BK387 := n2_; have HB := n3_; clear n0_ n1_ n2_ n3_; (try clear hb); (try clear hb2); (try clear hk); (try clear hi))); go_upto_region 17 with (first | ((with_reducible refine gate_dst (N := 60) rfl ?_); refine Go.Proofs.Ytalnlphinlfenaa.XMake.make_any (Kd.int .i64) _ 2 rfl (N := 60) rfl 22 _ _ rfl a0_2 rfl rfl Try.underlying22 (.int .i64 0) 8 info2 rfl (by decide) (by omega) 0 (ok := fun _ => True) (okp := fun _ => True) rfl (fun _ hk => hk) trivial (of_decide_eq_true (by first | (with_reducible assumption) | assumption)) (Nat.le_trans (Nat.mul_le_mul_right _ (of_decide_eq_true (by first | (with_reducible assumption) | assumption) : a0_2.toNat ≤ 35184372088832)) (by omega)) (Below.refl _ _) (Nat.le_refl _) ?_; intro v403 w38 ho39 hb hg_ hnew_; clear hg_ hnew_; (first | rw [← Ny402.out] at ho39 | (simp only [Int.reduceToNat] at ho39; rw [← Ny402.out] at ho39)); have n0_ := Aside0.mk (Kd.R_lower ho39 (below_size (by repeat (first | (with_reducible first | exact HB.out | apply below_alloc | apply pw_below_drewN | apply below_drew1 | refine below_set ?_ GE387.out) | exact HB.out)))); have n1_ := Aside0.mk (blk_below (g := gb387) (o := .cells #[.slice A0_0 l0_0.length c0_0, .int .i64 a0_1, .int .u8 a0_2, .int .i64 a0_3] 47 (0, 0)) (by (with_reducible repeat (first | refine blk_drewN ?_ _ | refine blk_drew ?_ | refine blk_alloc ?_ _)); exact BK387.out) hb); have n2_ := Aside0.mk (below_step (by repeat (first | (with_reducible first | exact HB.out | apply below_alloc | apply pw_below_drewN | apply below_drew1 | refine below_set ?_ GE387.out) | exact HB.out)) hb); clear BK387; clear HB; have HO404 := n0_; have BK387 := n1_; have HB := n2_; clear n0_ n1_ n2_; clear hb ho39) | ((with_reducible refine gate_builtin (b := .append) (xs := #[.tmp 60, .tmp 62]) rfl ?_); at_builtin; refine Kd.R_append (Kd.int .i64) (w0 := w) w.heap.size rfl (.tmp 60) (.tmp 62) 22 2 (.int .i64 0) 8 rfl Try.underlying22 info2 rfl (by decide) (by omega) v403 y402 a0_3 [.int .i64 a0_3] (fun _ => True) (fun _ => False) rfl rfl ?aP (fun _ hk => hk.elim) ?aF ?aO ?aB ?aS ?aL ?_; (case aP => exact rfl); (case aB => exact (by repeat (first | (with_reducible first | exact HB.out | apply below_alloc | apply pw_below_drewN | apply below_drew1 | refine below_set ?_ GE387.out) | exact HB.out))); (case aF => exact (fun _ _ => trivial)); (case aO => exact (by (with_reducible repeat (first | apply Kd.R_alloc | apply Kd.R_drewN | apply Kd.R_drew)); exact HO404.out)); (case aS => exact (below_size (by repeat (first | (with_reducible first | exact HB.out | apply below_alloc | apply pw_below_drewN | apply below_drew1 | refine below_set ?_ GE387.out) | exact HB.out)))); (case aL => have := LMc27.out; omega); intro v406 w40 ho hb hg hat; rw [← Ny405.out] at ho; have n0_ := Aside0.mk (blk_grown (g := gb387) (o := .cells #[.slice A0_0 l0_0.length c0_0, .int .i64 a0_1, .int .u8 a0_2, .int .i64 a0_3] 47 (0, 0)) (by (with_reducible repeat (first | refine blk_drewN ?_ _ | refine blk_drew ?_ | refine blk_alloc ?_ _)); exact BK387.out) hg (Kd.R_ne HO404.out BK387.out (by decide))); have n1_ := Aside0.mk (hb); have n2_ := Aside0.mk (ho); clear BK387; clear HB; clear HO404; have BK387 := n0_; have HB := n1_; have HO407 := n2_; clear n0_ n1_ n2_; clear ho hb hg hat; obtain ⟨Ao41, co41, eo41⟩ := Kd.R_slice HO407.out; subst eo41) | (go_at_call 18; (with_reducible refine (value_Of.calls kj14 _ _ y405 a0_1 t408 t409 _ ?side1 ?side2 A28.out).mono ?_); (case side1 => repeat (first | exact (Kd.R_reads' HO407.out).2.2 | (with_reducible refine Kd.C_alloc ?_ _) | (with_reducible refine Kd.C_drewN ?_ _) | (with_reducible refine Kd.C_drew ?_))); (case side2 => exact (Kd.R_reads' HO407.out).2.1); rintro e w42 ⟨rfl, hb⟩; have n0_ := Aside0.mk (Kd.R_below (by (with_reducible repeat (first | apply Kd.R_alloc | apply Kd.R_drewN | apply Kd.R_drew)); exact HO407.out) hb); have n1_ := Aside0.mk (blk_below (g := gb387) (o := .cells #[.slice A0_0 l0_0.length c0_0, .int .i64 a0_1, .int .u8 a0_2, .int .i64 a0_3] 47 (0, 0)) (by (with_reducible repeat (first | refine blk_drewN ?_ _ | refine blk_drew ?_ | refine blk_alloc ?_ _)); exact BK387.out) hb); have n2_ := Aside0.mk (below_step (by repeat (first | (with_reducible first | exact HB.out | apply below_alloc | apply pw_below_drewN | apply below_drew1 | refine below_set ?_ GE387.out) | exact HB.out)) hb); clear HO407; clear BK387; clear HB; have HO407 := n0_; have BK387 := n1_; have HB := n2_; clear n0_ n1_ n2_; (try clear hb); (try clear hb2); (try clear hk); (try clear hi)) | ((with_reducible refine gate_dst (N := 72) rfl ?_); refine Go.Proofs.Ytalnlphinlfenaa.XMake.make_any (Kd.int .i64) _ 2 rfl (N := 72) rfl 22 _ _ rfl ji29 rfl rfl Try.underlying22 (.int .i64 0) 8 info2 rfl (by decide) (by omega) 0 (ok := fun _ => True) (okp := fun _ => True) rfl (fun _ hk => hk) trivial (of_decide_eq_true (by first | (with_reducible assumption) | assumption)) (Nat.le_trans (Nat.mul_le_mul_right _ (of_decide_eq_true (by first | (with_reducible assumption) | assumption) : ji29.toNat ≤ 35184372088832)) (by omega)) (Below.refl _ _) (Nat.le_refl _) ?_; intro v411 w43 ho44 hb hg_ hnew_; clear hg_ hnew_; (first | rw [← Ny410.out] at ho44 | (simp only [Int.reduceToNat] at ho44; rw [← Ny410.out] at ho44)); have n0_ := Aside0.mk (Kd.R_elder' (by (with_reducible repeat (first | apply Kd.R_alloc | apply Kd.R_drewN | apply Kd.R_drew)); exact HO407.out) (Kd.R_base ho44) hb); have n1_ := Aside0.mk (Kd.R_lower (Kd.R_new' ho44 (Kd.R_lt (by (with_reducible repeat (first | apply Kd.R_alloc | apply Kd.R_drewN | apply Kd.R_drew)); exact HO407.out))) (below_size (by repeat (first | (with_reducible first | exact HB.out | apply below_alloc | apply pw_below_drewN | apply below_drew1 | refine below_set ?_ GE387.out) | exact HB.out)))); have n2_ := Aside0.mk (blk_below (g := gb387) (o := .cells #[.slice A0_0 l0_0.length c0_0, .int .i64 a0_1, .int .u8 a0_2, .int .i64 a0_3] 47 (0, 0)) (by (with_reducible repeat (first | refine blk_drewN ?_ _ | refine blk_drew ?_ | refine blk_alloc ?_ _)); exact BK387.out) hb); have n3_ := Aside0.mk (below_step (by repeat (first | (with_reducible first | exact HB.out | apply below_alloc | apply pw_below_drewN | apply below_drew1 | refine below_set ?_ GE387.out) | exact HB.out)) hb); clear HO407; clear BK387; clear HB; have HO407 := n0_; have HO412 := n1_; have BK387 := n2_; have HB := n3_; clear n0_ n1_ n2_ n3_; clear hb ho44) | ((with_reducible refine gate_builtin (b := .append) (xs := #[.tmp 72, .tmp 74]) rfl ?_); at_builtin; refine Kd.R_append (Kd.int .i64) (w0 := w) w.heap.size rfl (.tmp 72) (.tmp 74) 22 2 (.int .i64 0) 8 rfl Try.underlying22 info2 rfl (by decide) (by omega) v411 y410 a0_3 [.int .i64 a0_3] (fun k_ => some k_ ≠ (.slice Ao41 y405.length co41 : Value).ownBlock) (fun _ => False) rfl rfl ?aP (fun _ hk => hk.elim) ?aF ?aO ?aB ?aS ?aL ?_; (case aP => exact rfl); (case aB => exact (by repeat (first | (with_reducible first | exact HB.out | apply below_alloc | apply pw_below_drewN | apply below_drew1 | refine below_set ?_ GE387.out) | exact HB.out))); (case aF => exact (fun k_ hk => Kd.fresh' (Kd.R_lt (by (with_reducible repeat (first | apply Kd.R_alloc | apply Kd.R_drewN | apply Kd.R_drew)); exact HO407.out)) k_ hk)); (case aO => exact (by (with_reducible repeat (first | apply Kd.R_alloc | apply Kd.R_drewN | apply Kd.R_drew)); exact Kd.R_mono HO412.out (fun _ hk => hk.2))); (case aS => exact (below_size (by repeat (first | (with_reducible first | exact HB.out | apply below_alloc | apply pw_below_drewN | apply below_drew1 | refine below_set ?_ GE387.out) | exact HB.out)))); (case aL => have := LMc32.out; omega); intro v414 w45 ho hb hg hat; rw [← Ny413.out] at ho; have n0_ := Aside0.mk (blk_grown (g := gb387) (o := .cells #[.slice A0_0 l0_0.length c0_0, .int .i64 a0_1, .int .u8 a0_2, .int .i64 a0_3] 47 (0, 0)) (by (with_reducible repeat (first | refine blk_drewN ?_ _ | refine blk_drew ?_ | refine blk_alloc ?_ _)); exact BK387.out) hg (Kd.R_ne HO412.out BK387.out (by decide))); have n1_ := Aside0.mk (Kd.R_after (ok := (fun _ => True)) (by (with_reducible repeat (first | apply Kd.R_alloc | apply Kd.R_drewN | apply Kd.R_drew)); exact HO407.out) hg hat); have n2_ := Aside0.mk (hb); have n3_ := Aside0.mk (ho); clear BK387; clear HO407; clear HB; clear HO412; have BK387 := n0_; have HO407 := n1_; have HB := n2_; have HO415 := n3_; clear n0_ n1_ n2_ n3_; clear ho hb hg hat; obtain ⟨Ao46, co46, eo46⟩ := Kd.R_slice HO415.out; subst eo46) | (go_at_call 18; (with_reducible refine (value_Of.calls kj14 _ _ y413 a0_1 t416 t417 _ ?side1 ?side2 A33.out).mono ?_); (case side1 => repeat (first | exact (Kd.R_reads' HO415.out).2.2 | (with_reducible refine Kd.C_alloc ?_ _) | (with_reducible refine Kd.C_drewN ?_ _) | (with_reducible refine Kd.C_drew ?_))); (case side2 => exact (Kd.R_reads' HO415.out).2.1); rintro e w47 ⟨rfl, hb⟩; have n0_ := Aside0.mk (Kd.R_below (by (with_reducible repeat (first | apply Kd.R_alloc | apply Kd.R_drewN | apply Kd.R_drew)); exact HO407.out) hb); have n1_ := Aside0.mk (Kd.R_below (by (with_reducible repeat (first | apply Kd.R_alloc | apply Kd.R_drewN | apply Kd.R_drew)); exact HO415.out) hb); have n2_ := Aside0.mk (blk_below (g := gb387) (o := .cells #[.slice A0_0 l0_0.length c0_0, .int .i64 a0_1, .int .u8 a0_2, .int .i64 a0_3] 47 (0, 0)) (by (with_reducible repeat (first | refine blk_drewN ?_ _ | refine blk_drew ?_ | refine blk_alloc ?_ _)); exact BK387.out) hb); have n3_ := Aside0.mk (below_step (by repeat (first | (with_reducible first | exact HB.out | apply below_alloc | apply pw_below_drewN | apply below_drew1 | refine below_set ?_ GE387.out) | exact HB.out)) hb); clear HO407; clear HO415; clear BK387; clear HB; have HO407 := n0_; have HO415 := n1_; have BK387 := n2_; have HB := n3_; clear n0_ n1_ n2_ n3_; (try clear hb); (try clear hb2); (try clear hk); (try clear hi)) | (go_at_call 19; (with_reducible refine (rate_Discount.calls kj14 t408 a0_1 t418 t419 _ A35.out).mono ?_); rintro e w48 ⟨rfl, hb⟩; have n0_ := Aside0.mk (Kd.R_below (by (with_reducible repeat (first | apply Kd.R_alloc | apply Kd.R_drewN | apply Kd.R_drew)); exact HO407.out) hb); have n1_ := Aside0.mk (Kd.R_below (by (with_reducible repeat (first | apply Kd.R_alloc | apply Kd.R_drewN | apply Kd.R_drew)); exact HO415.out) hb); have n2_ := Aside0.mk (blk_below (g := gb387) (o := .cells #[.slice A0_0 l0_0.length c0_0, .int .i64 a0_1, .int .u8 a0_2, .int .i64 a0_3] 47 (0, 0)) (by (with_reducible repeat (first | refine blk_drewN ?_ _ | refine blk_drew ?_ | refine blk_alloc ?_ _)); exact BK387.out) hb); have n3_ := Aside0.mk (below_step (by repeat (first | (with_reducible first | exact HB.out | apply below_alloc | apply pw_below_drewN | apply below_drew1 | refine below_set ?_ GE387.out) | exact HB.out)) hb); clear HO407; clear HO415; clear BK387; clear HB; have HO407 := n0_; have HO415 := n1_; have BK387 := n2_; have HB := n3_; clear n0_ n1_ n2_ n3_; (try clear hb); (try clear hb2); (try clear hk); (try clear hi))))
                                      have H := HC37.out
                                      clear HC37
                                      by_cases c49 : t419 = 0
                                      · rw [if_pos c49] at H
                                        have c49b0 : (t419 == 0) = true := beq_iff_eq.mpr c49
                                        have c49b1 : (t419 != 0) = false := bne_eq_false_iff_eq.mpr c49
                                        clear c49
                                        obtain rfl := Option.some.inj H
                                        go_wp2
                                        repeat (go_quiet (fail); try go_wp2)
                                        go_ret
                                        exact ⟨by first | rfl | (simp [errW_none, errW_some] <;> rfl) | (simp only [← hji29]; first | rfl | (simp [errW_none, errW_some] <;> rfl)) | (simp [*, errW_none, errW_some] <;> rfl), by repeat (first | (with_reducible first | exact HB.out | apply below_alloc | apply pw_below_drewN | apply below_drew1 | refine below_set ?_ GE387.out) | exact HB.out)⟩
                                      · rw [if_neg c49] at H
                                        have c49b0 : (t419 == 0) = false := beq_eq_false_iff_ne.mpr c49
                                        have c49b1 : (t419 != 0) = true := bne_iff_ne.mpr c49
                                        obtain rfl := Option.some.inj H
                                        go_wp2
                                        repeat (go_quiet (fail); try go_wp2)
                                        go_ret
                                        exact ⟨by first | rfl | (simp [errW_none, errW_some] <;> rfl) | (simp only [← hji29]; first | rfl | (simp [errW_none, errW_some] <;> rfl)) | (simp [*, errW_none, errW_some] <;> rfl), by repeat (first | (with_reducible first | exact HB.out | apply below_alloc | apply pw_below_drewN | apply below_drew1 | refine below_set ?_ GE387.out) | exact HB.out)⟩
                                    · rw [if_neg c36] at H
                                      have c36b0 : (t417 == 0) = false := beq_eq_false_iff_ne.mpr c36
                                      have c36b1 : (t417 != 0) = true := bne_iff_ne.mpr c36
                                      obtain rfl := Option.some.inj H
                                      go_wp2_with (first | ((with_reducible refine gate_dst (N := 60) rfl ?_); refine Go.Proofs.Ytalnlphinlfenaa.XMake.make_any (Kd.int .i64) _ 2 rfl (N := 60) rfl 22 _ _ rfl a0_2 rfl rfl Try.underlying22 (.int .i64 0) 8 info2 rfl (by decide) (by omega) 0 (ok := fun _ => True) (okp := fun _ => True) rfl (fun _ hk => hk) trivial (of_decide_eq_true (by first | (with_reducible assumption) | assumption)) (Nat.le_trans (Nat.mul_le_mul_right _ (of_decide_eq_true (by first | (with_reducible assumption) | assumption) : a0_2.toNat ≤ 35184372088832)) (by omega)) (Below.refl _ _) (Nat.le_refl _) ?_; intro v403 w50 ho51 hb hg_ hnew_; clear hg_ hnew_; (first | rw [← Ny402.out] at ho51 | (simp only [Int.reduceToNat] at ho51; rw [← Ny402.out] at ho51)); have n0_ := Aside0.mk (Kd.R_lower ho51 (below_size (by repeat (first | (with_reducible first | exact HB.out | apply below_alloc | apply pw_below_drewN | apply below_drew1 | refine below_set ?_ GE387.out) | exact HB.out)))); have n1_ := Aside0.mk (blk_below (g := gb387) (o := .cells #[.slice A0_0 l0_0.length c0_0, .int .i64 a0_1, .int .u8 a0_2, .int .i64 a0_3] 47 (0, 0)) (by (with_reducible repeat (first | refine blk_drewN ?_ _ | refine blk_drew ?_ | refine blk_alloc ?_ _)); exact BK387.out) hb); have n2_ := Aside0.mk (below_step (by repeat (first | (with_reducible first | exact HB.out | apply below_alloc | apply pw_below_drewN | apply below_drew1 | refine below_set ?_ GE387.out) | exact HB.out)) hb); clear BK387; clear HB; have HO404 := n0_; have BK387 := n1_; have HB := n2_; clear n0_ n1_ n2_; clear hb ho51) | ((with_reducible refine gate_builtin (b := .append) (xs := #[.tmp 60, .tmp 62]) rfl ?_); at_builtin; refine Kd.R_append (Kd.int .i64) (w0 := w) w.heap.size rfl (.tmp 60) (.tmp 62) 22 2 (.int .i64 0) 8 rfl Try.underlying22 info2 rfl (by decide) (by omega) v403 y402 a0_3 [.int .i64 a0_3] (fun _ => True) (fun _ => False) rfl rfl ?aP (fun _ hk => hk.elim) ?aF ?aO ?aB ?aS ?aL ?_; (case aP => exact rfl); (case aB => exact (by repeat (first | (with_reducible first | exact HB.out | apply below_alloc | apply pw_below_drewN | apply below_drew1 | refine below_set ?_ GE387.out) | exact HB.out))); (case aF => exact (fun _ _ => trivial)); (case aO => exact (by (with_reducible repeat (first | apply Kd.R_alloc | apply Kd.R_drewN | apply Kd.R_drew)); exact HO404.out)); (case aS => exact (below_size (by repeat (first | (with_reducible first | exact HB.out | apply below_alloc | apply pw_below_drewN | apply below_drew1 | refine below_set ?_ GE387.out) | exact HB.out)))); (case aL => have := LMc27.out; omega); intro v406 w52 ho hb hg hat; rw [← Ny405.out] at ho; have n0_ := Aside0.mk (blk_grown (g := gb387) (o := .cells #[.slice A0_0 l0_0.length c0_0, .int .i64 a0_1, .int .u8 a0_2, .int .i64 a0_3] 47 (0, 0)) (by (with_reducible repeat (first | refine blk_drewN ?_ _ | refine blk_drew ?_ | refine blk_alloc ?_ _)); exact BK387.out) hg (Kd.R_ne HO404.out BK387.out (by decide))); have n1_ := Aside0.mk (hb); have n2_ := Aside0.mk (ho); clear BK387; clear HB; clear HO404; have BK387 := n0_; have HB := n1_; have HO407 := n2_; clear n0_ n1_ n2_; clear ho hb hg hat; obtain ⟨Ao53, co53, eo53⟩ := Kd.R_slice HO407.out; subst eo53) | (go_at_call 18; (with_reducible refine (value_Of.calls kj14 _ _ y405 a0_1 t408 t409 _ ?side1 ?side2 A28.out).mono ?_); (case side1 => repeat (first | exact (Kd.R_reads' HO407.out).2.2 | (with_reducible refine Kd.C_alloc ?_ _) | (with_reducible refine Kd.C_drewN ?_ _) | (with_reducible refine Kd.C_drew ?_))); (case side2 => exact (Kd.R_reads' HO407.out).2.1); rintro e w54 ⟨rfl, hb⟩; have n0_ := Aside0.mk (Kd.R_below (by (with_reducible repeat (first | apply Kd.R_alloc | apply Kd.R_drewN | apply Kd.R_drew)); exact HO407.out) hb); have n1_ := Aside0.mk (blk_below (g := gb387) (o := .cells #[.slice A0_0 l0_0.length c0_0, .int .i64 a0_1, .int .u8 a0_2, .int .i64 a0_3] 47 (0, 0)) (by (with_reducible repeat (first | refine blk_drewN ?_ _ | refine blk_drew ?_ | refine blk_alloc ?_ _)); exact BK387.out) hb); have n2_ := Aside0.mk (below_step (by repeat (first | (with_reducible first | exact HB.out | apply below_alloc | apply pw_below_drewN | apply below_drew1 | refine below_set ?_ GE387.out) | exact HB.out)) hb); clear HO407; clear BK387; clear HB; have HO407 := n0_; have BK387 := n1_; have HB := n2_; clear n0_ n1_ n2_; (try clear hb); (try clear hb2); (try clear hk); (try clear hi)) | ((with_reducible refine gate_dst (N := 72) rfl ?_); refine Go.Proofs.Ytalnlphinlfenaa.XMake.make_any (Kd.int .i64) _ 2 rfl (N := 72) rfl 22 _ _ rfl ji29 rfl rfl Try.underlying22 (.int .i64 0) 8 info2 rfl (by decide) (by omega) 0 (ok := fun _ => True) (okp := fun _ => True) rfl (fun _ hk => hk) trivial (of_decide_eq_true (by first | (with_reducible assumption) | assumption)) (Nat.le_trans (Nat.mul_le_mul_right _ (of_decide_eq_true (by first | (with_reducible assumption) | assumption) : ji29.toNat ≤ 35184372088832)) (by omega)) (Below.refl _ _) (Nat.le_refl _) ?_; intro v411 w55 ho56 hb hg_ hnew_; clear hg_ hnew_; (first | rw [← Ny410.out] at ho56 | (simp only [Int.reduceToNat] at ho56; rw [← Ny410.out] at ho56)); have n0_ := Aside0.mk (Kd.R_elder' (by (with_reducible repeat (first | apply Kd.R_alloc | apply Kd.R_drewN | apply Kd.R_drew)); exact HO407.out) (Kd.R_base ho56) hb); have n1_ := Aside0.mk (Kd.R_lower (Kd.R_new' ho56 (Kd.R_lt (by (with_reducible repeat (first | apply Kd.R_alloc | apply Kd.R_drewN | apply Kd.R_drew)); exact HO407.out))) (below_size (by repeat (first | (with_reducible first | exact HB.out | apply below_alloc | apply pw_below_drewN | apply below_drew1 | refine below_set ?_ GE387.out) | exact HB.out)))); have n2_ := Aside0.mk (blk_below (g := gb387) (o := .cells #[.slice A0_0 l0_0.length c0_0, .int .i64 a0_1, .int .u8 a0_2, .int .i64 a0_3] 47 (0, 0)) (by (with_reducible repeat (first | refine blk_drewN ?_ _ | refine blk_drew ?_ | refine blk_alloc ?_ _)); exact BK387.out) hb); have n3_ := Aside0.mk (below_step (by repeat (first | (with_reducible first | exact HB.out | apply below_alloc | apply pw_below_drewN | apply below_drew1 | refine below_set ?_ GE387.out) | exact HB.out)) hb); clear HO407; clear BK387; clear HB; have HO407 := n0_; have HO412 := n1_; have BK387 := n2_; have HB := n3_; clear n0_ n1_ n2_ n3_; clear hb ho56) | ((with_reducible refine gate_builtin (b := .append) (xs := #[.tmp 72, .tmp 74]) rfl ?_); at_builtin; refine Kd.R_append (Kd.int .i64) (w0 := w) w.heap.size rfl (.tmp 72) (.tmp 74) 22 2 (.int .i64 0) 8 rfl Try.underlying22 info2 rfl (by decide) (by omega) v411 y410 a0_3 [.int .i64 a0_3] (fun k_ => some k_ ≠ (.slice Ao53 y405.length co53 : Value).ownBlock) (fun _ => False) rfl rfl ?aP (fun _ hk => hk.elim) ?aF ?aO ?aB ?aS ?aL ?_; (case aP => exact rfl); (case aB => exact (by repeat (first | (with_reducible first | exact HB.out | apply below_alloc | apply pw_below_drewN | apply below_drew1 | refine below_set ?_ GE387.out) | exact HB.out))); (case aF => exact (fun k_ hk => Kd.fresh' (Kd.R_lt (by (with_reducible repeat (first | apply Kd.R_alloc | apply Kd.R_drewN | apply Kd.R_drew)); exact HO407.out)) k_ hk)); (case aO => exact (by (with_reducible repeat (first | apply Kd.R_alloc | apply Kd.R_drewN | apply Kd.R_drew)); exact Kd.R_mono HO412.out (fun _ hk => hk.2))); (case aS => exact (below_size (by repeat (first | (with_reducible first | exact HB.out | apply below_alloc | apply pw_below_drewN | apply below_drew1 | refine below_set ?_ GE387.out) | exact HB.out)))); (case aL => have := LMc32.out; omega); intro v414 w57 ho hb hg hat; rw [← Ny413.out] at ho; have n0_ := Aside0.mk (blk_grown (g := gb387) (o := .cells #[.slice A0_0 l0_0.length c0_0, .int .i64 a0_1, .int .u8 a0_2, .int .i64 a0_3] 47 (0, 0)) (by (with_reducible repeat (first | refine blk_drewN ?_ _ | refine blk_drew ?_ | refine blk_alloc ?_ _)); exact BK387.out) hg (Kd.R_ne HO412.out BK387.out (by decide))); have n1_ := Aside0.mk (Kd.R_after (ok := (fun _ => True)) (by (with_reducible repeat (first | apply Kd.R_alloc | apply Kd.R_drewN | apply Kd.R_drew)); exact HO407.out) hg hat); have n2_ := Aside0.mk (hb); have n3_ := Aside0.mk (ho); clear BK387; clear HO407; clear HB; clear HO412; have BK387 := n0_; have HO407 := n1_; have HB := n2_; have HO415 := n3_; clear n0_ n1_ n2_ n3_; clear ho hb hg hat; obtain ⟨Ao58, co58, eo58⟩ := Kd.R_slice HO415.out; subst eo58) | (go_at_call 18; (with_reducible refine (value_Of.calls kj14 _ _ y413 a0_1 t416 t417 _ ?side1 ?side2 A33.out).mono ?_); (case side1 => repeat (first | exact (Kd.R_reads' HO415.out).2.2 | (with_reducible refine Kd.C_alloc ?_ _) | (with_reducible refine Kd.C_drewN ?_ _) | (with_reducible refine Kd.C_drew ?_))); (case side2 => exact (Kd.R_reads' HO415.out).2.1); rintro e w59 ⟨rfl, hb⟩; have n0_ := Aside0.mk (Kd.R_below (by (with_reducible repeat (first | apply Kd.R_alloc | apply Kd.R_drewN | apply Kd.R_drew)); exact HO407.out) hb); have n1_ := Aside0.mk (Kd.R_below (by (with_reducible repeat (first | apply Kd.R_alloc | apply Kd.R_drewN | apply Kd.R_drew)); exact HO415.out) hb); have n2_ := Aside0.mk (blk_below (g := gb387) (o := .cells #[.slice A0_0 l0_0.length c0_0, .int .i64 a0_1, .int .u8 a0_2, .int .i64 a0_3] 47 (0, 0)) (by (with_reducible repeat (first | refine blk_drewN ?_ _ | refine blk_drew ?_ | refine blk_alloc ?_ _)); exact BK387.out) hb); have n3_ := Aside0.mk (below_step (by repeat (first | (with_reducible first | exact HB.out | apply below_alloc | apply pw_below_drewN | apply below_drew1 | refine below_set ?_ GE387.out) | exact HB.out)) hb); clear HO407; clear HO415; clear BK387; clear HB; have HO407 := n0_; have HO415 := n1_; have BK387 := n2_; have HB := n3_; clear n0_ n1_ n2_ n3_; (try clear hb); (try clear hb2); (try clear hk); (try clear hi)) | (go_at_call 19; (with_reducible refine (rate_Discount.calls kj14 t408 a0_1 t418 t419 _ A35.out).mono ?_); rintro e w60 ⟨rfl, hb⟩; have n0_ := Aside0.mk (Kd.R_below (by (with_reducible repeat (first | apply Kd.R_alloc | apply Kd.R_drewN | apply Kd.R_drew)); exact HO407.out) hb); have n1_ := Aside0.mk (Kd.R_below (by (with_reducible repeat (first | apply Kd.R_alloc | apply Kd.R_drewN | apply Kd.R_drew)); exact HO415.out) hb); have n2_ := Aside0.mk (blk_below (g := gb387) (o := .cells #[.slice A0_0 l0_0.length c0_0, .int .i64 a0_1, .int .u8 a0_2, .int .i64 a0_3] 47 (0, 0)) (by (with_reducible repeat (first | refine blk_drewN ?_ _ | refine blk_drew ?_ | refine blk_alloc ?_ _)); exact BK387.out) hb); have n3_ := Aside0.mk (below_step (by repeat (first | (with_reducible first | exact HB.out | apply below_alloc | apply pw_below_drewN | apply below_drew1 | refine below_set ?_ GE387.out) | exact HB.out)) hb); clear HO407; clear HO415; clear BK387; clear HB; have HO407 := n0_; have HO415 := n1_; have BK387 := n2_; have HB := n3_; clear n0_ n1_ n2_ n3_; (try clear hb); (try clear hb2); (try clear hk); (try clear hi)))
                                      repeat (go_quiet (first | ((with_reducible refine gate_dst (N := 60) rfl ?_); refine Go.Proofs.Ytalnlphinlfenaa.XMake.make_any (Kd.int .i64) _ 2 rfl (N := 60) rfl 22 _ _ rfl a0_2 rfl rfl Try.underlying22 (.int .i64 0) 8 info2 rfl (by decide) (by omega) 0 (ok := fun _ => True) (okp := fun _ => True) rfl (fun _ hk => hk) trivial (of_decide_eq_true (by first | (with_reducible assumption) | assumption)) (Nat.le_trans (Nat.mul_le_mul_right _ (of_decide_eq_true (by first | (with_reducible assumption) | assumption) : a0_2.toNat ≤ 35184372088832)) (by omega)) (Below.refl _ _) (Nat.le_refl _) ?_; intro v403 w50 ho51 hb hg_ hnew_; clear hg_ hnew_; (first | rw [← Ny402.out] at ho51 | (simp only [Int.reduceToNat] at ho51; rw [← Ny402.out] at ho51)); have n0_ := Aside0.mk (Kd.R_lower ho51 (below_size (by repeat (first | (with_reducible first | exact HB.out | apply below_alloc | apply pw_below_drewN | apply below_drew1 | refine below_set ?_ GE387.out) | exact HB.out)))); have n1_ := Aside0.mk (blk_below (g := gb387) (o := .cells #[.slice A0_0 l0_0.length c0_0, .int .i64 a0_1, .int .u8 a0_2, .int .i64 a0_3] 47 (0, 0)) (by (with_reducible repeat (first | refine blk_drewN ?_ _ | refine blk_drew ?_ | refine blk_alloc ?_ _)); exact BK387.out) hb); have n2_ := Aside0.mk (below_step (by repeat (first | (with_reducible first | exact HB.out | apply below_alloc | apply pw_below_drewN | apply below_drew1 | refine below_set ?_ GE387.out) | exact HB.out)) hb); clear BK387; clear HB; have HO404 := n0_; have BK387 := n1_; have HB := n2_; clear n0_ n1_ n2_; clear hb ho51) | ((with_reducible refine gate_builtin (b := .append) (xs := #[.tmp 60, .tmp 62]) rfl ?_); at_builtin; refine Kd.R_append (Kd.int .i64) (w0 := w) w.heap.size rfl (.tmp 60) (.tmp 62) 22 2 (.int .i64 0) 8 rfl Try.underlying22 info2 rfl (by decide) (by omega) v403 y402 a0_3 [.int .i64 a0_3] (fun _ => True) (fun _ => False) rfl rfl ?aP (fun _ hk => hk.elim) ?aF ?aO ?aB ?aS ?aL ?_; (case aP => exact rfl); (case aB => exact (by repeat (first | (with_reducible first | exact HB.out | apply below_alloc | apply pw_below_drewN | apply below_drew1 | refine below_set ?_ GE387.out) | exact HB.out))); (case aF => exact (fun _ _ => trivial)); (case aO => exact (by (with_reducible repeat (first | apply Kd.R_alloc | apply Kd.R_drewN | apply Kd.R_drew)); exact HO404.out)); (case aS => exact (below_size (by repeat (first | (with_reducible first | exact HB.out | apply below_alloc | apply pw_below_drewN | apply below_drew1 | refine below_set ?_ GE387.out) | exact HB.out)))); (case aL => have := LMc27.out; omega); intro v406 w52 ho hb hg hat; rw [← Ny405.out] at ho; have n0_ := Aside0.mk (blk_grown (g := gb387) (o := .cells #[.slice A0_0 l0_0.length c0_0, .int .i64 a0_1, .int .u8 a0_2, .int .i64 a0_3] 47 (0, 0)) (by (with_reducible repeat (first | refine blk_drewN ?_ _ | refine blk_drew ?_ | refine blk_alloc ?_ _)); exact BK387.out) hg (Kd.R_ne HO404.out BK387.out (by decide))); have n1_ := Aside0.mk (hb); have n2_ := Aside0.mk (ho); clear BK387; clear HB; clear HO404; have BK387 := n0_; have HB := n1_; have HO407 := n2_; clear n0_ n1_ n2_; clear ho hb hg hat; obtain ⟨Ao53, co53, eo53⟩ := Kd.R_slice HO407.out; subst eo53) | (go_at_call 18; (with_reducible refine (value_Of.calls kj14 _ _ y405 a0_1 t408 t409 _ ?side1 ?side2 A28.out).mono ?_); (case side1 => repeat (first | exact (Kd.R_reads' HO407.out).2.2 | (with_reducible refine Kd.C_alloc ?_ _) | (with_reducible refine Kd.C_drewN ?_ _) | (with_reducible refine Kd.C_drew ?_))); (case side2 => exact (Kd.R_reads' HO407.out).2.1); rintro e w54 ⟨rfl, hb⟩; have n0_ := Aside0.mk (Kd.R_below (by (with_reducible repeat (first | apply Kd.R_alloc | apply Kd.R_drewN | apply Kd.R_drew)); exact HO407.out) hb); have n1_ := Aside0.mk (blk_below (g := gb387) (o := .cells #[.slice A0_0 l0_0.length c0_0, .int .i64 a0_1, .int .u8 a0_2, .int .i64 a0_3] 47 (0, 0)) (by (with_reducible repeat (first | refine blk_drewN ?_ _ | refine blk_drew ?_ | refine blk_alloc ?_ _)); exact BK387.out) hb); have n2_ := Aside0.mk (below_step (by repeat (first | (with_reducible first | exact HB.out | apply below_alloc | apply pw_below_drewN | apply below_drew1 | refine below_set ?_ GE387.out) | exact HB.out)) hb); clear HO407; clear BK387; clear HB; have HO407 := n0_; have BK387 := n1_; have HB := n2_; clear n0_ n1_ n2_; (try clear hb); (try clear hb2); (try clear hk); (try clear hi)) | ((with_reducible refine gate_dst (N := 72) rfl ?_); refine Go.Proofs.Ytalnlphinlfenaa.XMake.make_any (Kd.int .i64) _ 2 rfl (N := 72) rfl 22 _ _ rfl ji29 rfl rfl Try.underlying22 (.int .i64 0) 8 info2 rfl (by decide) (by omega) 0 (ok := fun _ => True) (okp := fun _ => True) rfl (fun _ hk => hk) trivial (of_decide_eq_true (by first | (with_reducible assumption) | assumption)) (Nat.le_trans (Nat.mul_le_mul_right _ (of_decide_eq_true (by first | (with_reducible assumption) | assumption) : ji29.toNat ≤ 35184372088832)) (by omega)) (Below.refl _ _) (Nat.le_refl _) ?_; intro v411 w55 ho56 hb hg_ hnew_; clear hg_ hnew_; (first | rw [← Ny410.out] at ho56 | (simp only [Int.reduceToNat] at ho56; rw [← Ny410.out] at ho56)); have n0_ := Aside0.mk (Kd.R_elder' (by (with_reducible repeat (first | apply Kd.R_alloc | apply Kd.R_drewN | apply Kd.R_drew)); exact HO407.out) (Kd.R_base ho56) hb); have n1_ := Aside0.mk (Kd.R_lower (Kd.R_new' ho56 (Kd.R_lt (by (with_reducible repeat (first | apply Kd.R_alloc | apply Kd.R_drewN | apply Kd.R_drew)); exact HO407.out))) (below_size (by repeat (first | (with_reducible first | exact HB.out | apply below_alloc | apply pw_below_drewN | apply below_drew1 | refine below_set ?_ GE387.out) | exact HB.out)))); have n2_ := Aside0.mk (blk_below (g := gb387) (o := .cells #[.slice A0_0 l0_0.length c0_0, .int .i64 a0_1, .int .u8 a0_2, .int .i64 a0_3] 47 (0, 0)) (by (with_reducible repeat (first | refine blk_drewN ?_ _ | refine blk_drew ?_ | refine blk_alloc ?_ _)); exact BK387.out) hb); have n3_ := Aside0.mk (below_step (by repeat (first | (with_reducible first | exact HB.out | apply below_alloc | apply pw_below_drewN | apply below_drew1 | refine below_set ?_ GE387.out) | exact HB.out)) hb); clear HO407; clear BK387; clear HB; have HO407 := n0_; have HO412 := n1_; have BK387 := n2_; have HB := n3_; clear n0_ n1_ n2_ n3_; clear hb ho56) | ((with_reducible refine gate_builtin (b := .append) (xs := #[.tmp 72, .tmp 74]) rfl ?_); at_builtin; refine Kd.R_append (Kd.int .i64) (w0 := w) w.heap.size rfl (.tmp 72) (.tmp 74) 22 2 (.int .i64 0) 8 rfl Try.underlying22 info2 rfl (by decide) (by omega) v411 y410 a0_3 [.int .i64 a0_3] (fun k_ => some k_ ≠ (.slice Ao53 y405.length co53 : Value).ownBlock) (fun _ => False) rfl rfl ?aP (fun _ hk => hk.elim) ?aF ?aO ?aB ?aS ?aL ?_; (case aP => exact rfl); (case aB => exact (by repeat (first | (with_reducible first | exact HB.out | apply below_alloc | apply pw_below_drewN | apply below_drew1 | refine below_set ?_ GE387.out) | exact HB.out))); (case aF => exact (fun k_ hk => Kd.fresh' (Kd.R_lt (by (with_reducible repeat (first | apply Kd.R_alloc | apply Kd.R_drewN | apply Kd.R_drew)); exact HO407.out)) k_ hk)); (case aO => exact (by (with_reducible repeat (first | apply Kd.R_alloc | apply Kd.R_drewN | apply Kd.R_drew)); exact Kd.R_mono HO412.out (fun _ hk => hk.2))); (case aS => exact (below_size (by repeat (first | (with_reducible first | exact HB.out | apply below_alloc | apply pw_below_drewN | apply below_drew1 | refine below_set ?_ GE387.out) | exact HB.out)))); (case aL => have := LMc32.out; omega); intro v414 w57 ho hb hg hat; rw [← Ny413.out] at ho; have n0_ := Aside0.mk (blk_grown (g := gb387) (o := .cells #[.slice A0_0 l0_0.length c0_0, .int .i64 a0_1, .int .u8 a0_2, .int .i64 a0_3] 47 (0, 0)) (by (with_reducible repeat (first | refine blk_drewN ?_ _ | refine blk_drew ?_ | refine blk_alloc ?_ _)); exact BK387.out) hg (Kd.R_ne HO412.out BK387.out (by decide))); have n1_ := Aside0.mk (Kd.R_after (ok := (fun _ => True)) (by (with_reducible repeat (first | apply Kd.R_alloc | apply Kd.R_drewN | apply Kd.R_drew)); exact HO407.out) hg hat); have n2_ := Aside0.mk (hb); have n3_ := Aside0.mk (ho); clear BK387; clear HO407; clear HB; clear HO412; have BK387 := n0_; have HO407 := n1_; have HB := n2_; have HO415 := n3_; clear n0_ n1_ n2_ n3_; clear ho hb hg hat; obtain ⟨Ao58, co58, eo58⟩ := Kd.R_slice HO415.out; subst eo58) | (go_at_call 18; (with_reducible refine (value_Of.calls kj14 _ _ y413 a0_1 t416 t417 _ ?side1 ?side2 A33.out).mono ?_); (case side1 => repeat (first | exact (Kd.R_reads' HO415.out).2.2 | (with_reducible refine Kd.C_alloc ?_ _) | (with_reducible refine Kd.C_drewN ?_ _) | (with_reducible refine Kd.C_drew ?_))); (case side2 => exact (Kd.R_reads' HO415.out).2.1); rintro e w59 ⟨rfl, hb⟩; have n0_ := Aside0.mk (Kd.R_below (by (with_reducible repeat (first | apply Kd.R_alloc | apply Kd.R_drewN | apply Kd.R_drew)); exact HO407.out) hb); have n1_ := Aside0.mk (Kd.R_below (by (with_reducible repeat (first | apply Kd.R_alloc | apply Kd.R_drewN | apply Kd.R_drew)); exact HO415.out) hb); have n2_ := Aside0.mk (blk_below (g := gb387) (o := .cells #[.slice A0_0 l0_0.length c0_0, .int .i64 a0_1, .int .u8 a0_2, .int .i64 a0_3] 47 (0, 0)) (by (with_reducible repeat (first | refine blk_drewN ?_ _ | refine blk_drew ?_ | refine blk_alloc ?_ _)); exact BK387.out) hb); have n3_ := Aside0.mk (below_step (by repeat (first | (with_reducible first | exact HB.out | apply below_alloc | apply pw_below_drewN | apply below_drew1 | refine below_set ?_ GE387.out) | exact HB.out)) hb); clear HO407; clear HO415; clear BK387; clear HB; have HO407 := n0_; have HO415 := n1_; have BK387 := n2_; have HB := n3_; clear n0_ n1_ n2_ n3_; (try clear hb); (try clear hb2); (try clear hk); (try clear hi)) | (go_at_call 19; (with_reducible refine (rate_Discount.calls kj14 t408 a0_1 t418 t419 _ A35.out).mono ?_); rintro e w60 ⟨rfl, hb⟩; have n0_ := Aside0.mk (Kd.R_below (by (with_reducible repeat (first | apply Kd.R_alloc | apply Kd.R_drewN | apply Kd.R_drew)); exact HO407.out) hb); have n1_ := Aside0.mk (Kd.R_below (by (with_reducible repeat (first | apply Kd.R_alloc | apply Kd.R_drewN | apply Kd.R_drew)); exact HO415.out) hb); have n2_ := Aside0.mk (blk_below (g := gb387) (o := .cells #[.slice A0_0 l0_0.length c0_0, .int .i64 a0_1, .int .u8 a0_2, .int .i64 a0_3] 47 (0, 0)) (by (with_reducible repeat (first | refine blk_drewN ?_ _ | refine blk_drew ?_ | refine blk_alloc ?_ _)); exact BK387.out) hb); have n3_ := Aside0.mk (below_step (by repeat (first | (with_reducible first | exact HB.out | apply below_alloc | apply pw_below_drewN | apply below_drew1 | refine below_set ?_ GE387.out) | exact HB.out)) hb); clear HO407; clear HO415; clear BK387; clear HB; have HO407 := n0_; have HO415 := n1_; have BK387 := n2_; have HB := n3_; clear n0_ n1_ n2_ n3_; (try clear hb); (try clear hb2); (try clear hk); (try clear hi))); try go_wp2_with (first | ((with_reducible refine gate_dst (N := 60) rfl ?_); refine Go.Proofs.Ytalnlphinlfenaa.XMake.make_any (Kd.int .i64) _ 2 rfl (N := 60) rfl 22 _ _ rfl a0_2 rfl rfl Try.underlying22 (.int .i64 0) 8 info2 rfl (by decide) (by omega) 0 (ok := fun _ => True) (okp := fun _ => True) rfl (fun _ hk => hk) trivial (of_decide_eq_true (by first | (with_reducible assumption) | assumption)) (Nat.le_trans (Nat.mul_le_mul_right _ (of_decide_eq_true (by first | (with_reducible assumption) | assumption) : a0_2.toNat ≤ 35184372088832)) (by omega)) (Below.refl _ _) (Nat.le_refl _) ?_; intro v403 w50 ho51 hb hg_ hnew_; clear hg_ hnew_; (first | rw [← Ny402.out] at ho51 | (simp only [Int.reduceToNat] at ho51; rw [← Ny402.out] at ho51)); have n0_ := Aside0.mk (Kd.R_lower ho51 (below_size (by repeat (first | (with_reducible first | exact HB.out | apply below_alloc | apply pw_below_drewN | apply below_drew1 | refine below_set ?_ GE387.out) | exact HB.out)))); have n1_ := Aside0.mk (blk_below (g := gb387) (o := .cells #[.slice A0_0 l0_0.length c0_0, .int .i64 a0_1, .int .u8 a0_2, .int .i64 a0_3] 47 (0, 0)) (by (with_reducible repeat (first | refine blk_drewN ?_ _ | refine blk_drew ?_ | refine blk_alloc ?_ _)); exact BK387.out) hb); have n2_ := Aside0.mk (below_step (by repeat (first | (with_reducible first | exact HB.out | apply below_alloc | apply pw_below_drewN | apply below_drew1 | refine below_set ?_ GE387.out) | exact HB.out)) hb); clear BK387; clear HB; have HO404 := n0_; have BK387 := n1_; have HB := n2_; clear n0_ n1_ n2_; clear hb ho51) | ((with_reducible refine gate_builtin (b := .append) (xs := #[.tmp 60, .tmp 62]) rfl ?_); at_builtin; refine Kd.R_append (Kd.int .i64) (w0 := w) w.heap.size rfl (.tmp 60) (.tmp 62) 22 2 (.int .i64 0) 8 rfl Try.underlying22 info2 rfl (by decide) (by omega) v403 y402 a0_3 [.int .i64 a0_3] (fun _ => True) (fun _ => False) rfl rfl ?aP (fun _ hk => hk.elim) ?aF ?aO ?aB ?aS ?aL ?_; (case aP => exact rfl); (case aB => exact (by repeat (first | (with_reducible first | exact HB.out | apply below_alloc | apply pw_below_drewN | apply below_drew1 | refine below_set ?_ GE387.out) | exact HB.out))); (case aF => exact (fun _ _ => trivial)); (case aO => exact (by (with_reducible repeat (first | apply Kd.R_alloc | apply Kd.R_drewN | apply Kd.R_drew)); exact HO404.out)); (case aS => exact (below_size (by repeat (first | (with_reducible first | exact HB.out | apply below_alloc | apply pw_below_drewN | apply below_drew1 | refine below_set ?_ GE387.out) | exact HB.out)))); (case aL => have := LMc27.out; omega); intro v406 w52 ho hb hg hat; rw [← Ny405.out] at ho; have n0_ := Aside0.mk (blk_grown (g := gb387) (o := .cells #[.slice A0_0 l0_0.length c0_0, .int .i64 a0_1, .int .u8 a0_2, .int .i64 a0_3] 47 (0, 0)) (by (with_reducible repeat (first | refine blk_drewN ?_ _ | refine blk_drew ?_ | refine blk_alloc ?_ _)); exact BK387.out) hg (Kd.R_ne HO404.out BK387.out (by decide))); have n1_ := Aside0.mk (hb); have n2_ := Aside0.mk (ho); clear BK387; clear HB; clear HO404; have BK387 := n0_; have HB := n1_; have HO407 := n2_; clear n0_ n1_ n2_; clear ho hb hg hat; obtain ⟨Ao53, co53, eo53⟩ := Kd.R_slice HO407.out; subst eo53) | (go_at_call 18; (with_reducible refine (value_Of.calls kj14 _ _ y405 a0_1 t408 t409 _ ?side1 ?side2 A28.out).mono ?_); (case side1 => repeat (first | exact (Kd.R_reads' HO407.out).2.2 | (with_reducible refine Kd.C_alloc ?_ _) | (with_reducible refine Kd.C_drewN ?_ _) | (with_reducible refine Kd.C_drew ?_))); (case side2 => exact (Kd.R_reads' HO407.out).2.1); rintro e w54 ⟨rfl, hb⟩; have n0_ := Aside0.mk (Kd.R_below (by (with_reducible repeat (first | apply Kd.R_alloc | apply Kd.R_drewN | apply Kd.R_drew)); exact HO407.out) hb); have n1_ := Aside0.mk (blk_below (g := gb387) (o := .cells #[.slice A0_0 l0_0.length c0_0, .int .i64 a0_1, .int .u8 a0_2, .int .i64 a0_3] 47 (0, 0)) (by (with_reducible repeat (first | refine blk_drewN ?_ _ | refine blk_drew ?_ | refine blk_alloc ?_ _)); exact BK387.out) hb); have n2_ := Aside0.mk (below_step (by repeat (first | (with_reducible first | exact HB.out | apply below_alloc | apply pw_below_drewN | apply below_drew1 | refine below_set ?_ GE387.out) | exact HB.out)) hb); clear HO407; clear BK387; clear HB; have HO407 := n0_; have BK387 := n1_; have HB := n2_; clear n0_ n1_ n2_; (try clear hb); (try clear hb2); (try clear hk); (try clear hi)) | ((with_reducible refine gate_dst (N := 72) rfl ?_); refine Go.Proofs.Ytalnlphinlfenaa.XMake.make_any (Kd.int .i64) _ 2 rfl (N := 72) rfl 22 _ _ rfl ji29 rfl rfl Try.underlying22 (.int .i64 0) 8 info2 rfl (by decide) (by omega) 0 (ok := fun _ => True) (okp := fun _ => True) rfl (fun _ hk => hk) trivial (of_decide_eq_true (by first | (with_reducible assumption) | assumption)) (Nat.le_trans (Nat.mul_le_mul_right _ (of_decide_eq_true (by first | (with_reducible assumption) | assumption) : ji29.toNat ≤ 35184372088832)) (by omega)) (Below.refl _ _) (Nat.le_refl _) ?_; intro v411 w55 ho56 hb hg_ hnew_; clear hg_ hnew_; (first | rw [← Ny410.out] at ho56 | (simp only [Int.reduceToNat] at ho56; rw [← Ny410.out] at ho56)); have n0_ := Aside0.mk (Kd.R_elder' (by (with_reducible repeat (first | apply Kd.R_alloc | apply Kd.R_drewN | apply Kd.R_drew)); exact HO407.out) (Kd.R_base ho56) hb); have n1_ := Aside0.mk (Kd.R_lower (Kd.R_new' ho56 (Kd.R_lt (by (with_reducible repeat (first | apply Kd.R_alloc | apply Kd.R_drewN | apply Kd.R_drew)); exact HO407.out))) (below_size (by repeat (first | (with_reducible first | exact HB.out | apply below_alloc | apply pw_below_drewN | apply below_drew1 | refine below_set ?_ GE387.out) | exact HB.out)))); have n2_ := Aside0.mk (blk_below (g := gb387) (o := .cells #[.slice A0_0 l0_0.length c0_0, .int .i64 a0_1, .int .u8 a0_2, .int .i64 a0_3] 47 (0, 0)) (by (with_reducible repeat (first | refine blk_drewN ?_ _ | refine blk_drew ?_ | refine blk_alloc ?_ _)); exact BK387.out) hb); have n3_ := Aside0.mk (below_step (by repeat (first | (with_reducible first | exact HB.out | apply below_alloc | apply pw_below_drewN | apply below_drew1 | refine below_set ?_ GE387.out) | exact HB.out)) hb); clear HO407; clear BK387; clear HB; have HO407 := n0_; have HO412 := n1_; have BK387 := n2_; have HB := n3_; clear n0_ n1_ n2_ n3_; clear hb ho56) | ((with_reducible refine gate_builtin (b := .append) (xs := #[.tmp 72, .tmp 74]) rfl ?_); at_builtin; refine Kd.R_append (Kd.int .i64) (w0 := w) w.heap.size rfl (.tmp 72) (.tmp 74) 22 2 (.int .i64 0) 8 rfl Try.underlying22 info2 rfl (by decide) (by omega) v411 y410 a0_3 [.int .i64 a0_3] (fun k_ => some k_ ≠ (.slice Ao53 y405.length co53 : Value).ownBlock) (fun _ => False) rfl rfl ?aP (fun _ hk => hk.elim) ?aF ?aO ?aB ?aS ?aL ?_; (case aP => exact rfl); (case aB => exact (by repeat (first | (with_reducible first | exact HB.out | apply below_alloc | apply pw_below_drewN | apply below_drew1 | refine below_set ?_ GE387.out) | exact HB.out))); (case aF => exact (fun k_ hk => Kd.fresh' (Kd.R_lt (by (with_reducible repeat (first | apply Kd.R_alloc | apply Kd.R_drewN | apply Kd.R_drew)); exact HO407.out)) k_ hk)); (case aO => exact (by (with_reducible repeat (first | apply Kd.R_alloc | apply Kd.R_drewN | apply Kd.R_drew)); exact Kd.R_mono HO412.out (fun _ hk => hk.2))); (case aS => exact (below_size (by repeat (first | (with_reducible first | exact HB.out | apply below_alloc | apply pw_below_drewN | apply below_drew1 | refine below_set ?_ GE387.out) | exact HB.out)))); (case aL => have := LMc32.out; omega); intro v414 w57 ho hb hg hat; rw [← Ny413.out] at ho; have n0_ := Aside0.mk (blk_grown (g := gb387) (o := .cells #[.slice A0_0 l0_0.length c0_0, .int .i64 a0_1, .int .u8 a0_2, .int .i64 a0_3] 47 (0, 0)) (by (with_reducible repeat (first | refine blk_drewN ?_ _ | refine blk_drew ?_ | refine blk_alloc ?_ _)); exact BK387.out) hg (Kd.R_ne HO412.out BK387.out (by decide))); have n1_ := Aside0.mk (Kd.R_after (ok := (fun _ => True)) (by (with_reducible repeat (first | apply Kd.R_alloc | apply Kd.R_drewN | apply Kd.R_drew)); exact HO407.out) hg hat); have n2_ := Aside0.mk (hb); have n3_ := Aside0.mk (ho); clear BK387; clear HO407; clear HB; clear HO412; have BK387 := n0_; have HO407 := n1_; have HB := n2_; have HO415 := n3_; clear n0_ n1_ n2_ n3_; clear ho hb hg hat; obtain ⟨Ao58, co58, eo58⟩ := Kd.R_slice HO415.out; subst eo58) | (go_at_call 18; (with_reducible refine (value_Of.calls kj14 _ _ y413 a0_1 t416 t417 _ ?side1 ?side2 A33.out).mono ?_); (case side1 => repeat (first | exact (Kd.R_reads' HO415.out).2.2 | (with_reducible refine Kd.C_alloc ?_ _) | (with_reducible refine Kd.C_drewN ?_ _) | (with_reducible refine Kd.C_drew ?_))); (case side2 => exact (Kd.R_reads' HO415.out).2.1); rintro e w59 ⟨rfl, hb⟩; have n0_ := Aside0.mk (Kd.R_below (by (with_reducible repeat (first | apply Kd.R_alloc | apply Kd.R_drewN | apply Kd.R_drew)); exact HO407.out) hb); have n1_ := Aside0.mk (Kd.R_below (by (with_reducible repeat (first | apply Kd.R_alloc | apply Kd.R_drewN | apply Kd.R_drew)); exact HO415.out) hb); have n2_ := Aside0.mk (blk_below (g := gb387) (o := .cells #[.slice A0_0 l0_0.length c0_0, .int .i64 a0_1, .int .u8 a0_2, .int .i64 a0_3] 47 (0, 0)) (by (with_reducible repeat (first | refine blk_drewN ?_ _ | refine blk_drew ?_ | refine blk_alloc ?_ _)); exact BK387.out) hb); have n3_ := Aside0.mk (below_step (by repeat (first | (with_reducible first | exact HB.out | apply below_alloc | apply pw_below_drewN | apply below_drew1 | refine below_set ?_ GE387.out) | exact HB.out)) hb); clear HO407; clear HO415; clear BK387; clear HB; have HO407 := n0_; have HO415 := n1_; have BK387 := n2_; have HB := n3_; clear n0_ n1_ n2_ n3_; (try clear hb); (try clear hb2); (try clear hk); (try clear hi)) | (go_at_call 19; (with_reducible refine (rate_Discount.calls kj14 t408 a0_1 t418 t419 _ A35.out).mono ?_); rintro e w60 ⟨rfl, hb⟩; have n0_ := Aside0.mk (Kd.R_below (by (with_reducible repeat (first | apply Kd.R_alloc | apply Kd.R_drewN | apply Kd.R_drew)); exact HO407.out) hb); have n1_ := Aside0.mk (Kd.R_below (by (with_reducible repeat (first | apply Kd.R_alloc | apply Kd.R_drewN | apply Kd.R_drew)); exact HO415.out) hb); have n2_ := Aside0.mk (blk_below (g := gb387) (o := .cells #[.slice A0_0 l0_0.length c0_0, .int .i64 a0_1, .int .u8 a0_2, .int .i64 a0_3] 47 (0, 0)) (by (with_reducible repeat (first | refine blk_drewN ?_ _ | refine blk_drew ?_ | refine blk_alloc ?_ _)); exact BK387.out) hb); have n3_ := Aside0.mk (below_step (by repeat (first | (with_reducible first | exact HB.out | apply below_alloc | apply pw_below_drewN | apply below_drew1 | refine below_set ?_ GE387.out) | exact HB.out)) hb); clear HO407; clear HO415; clear BK387; clear HB; have HO407 := n0_; have HO415 := n1_; have BK387 := n2_; have HB := n3_; clear n0_ n1_ n2_ n3_; (try clear hb); (try clear hb2); (try clear hk); (try clear hi))))
                                      go_ret
                                      exact ⟨by first | rfl | (simp [errW_none, errW_some] <;> rfl) | (simp only [← hji29]; first | rfl | (simp [errW_none, errW_some] <;> rfl)) | (simp [*, errW_none, errW_some] <;> rfl), by repeat (first | (with_reducible first | exact HB.out | apply below_alloc | apply pw_below_drewN | apply below_drew1 | refine below_set ?_ GE387.out) | exact HB.out)⟩
                                  · rw [if_neg c34] at H
                                    have c34b0 : (t409 == 0) = false := beq_eq_false_iff_ne.mpr c34
                                    have c34b1 : (t409 != 0) = true := bne_iff_ne.mpr c34
                                    obtain rfl := Option.some.inj H
                                    go_wp2_with (first | ((with_reducible refine gate_dst (N := 60) rfl ?_); refine Go.Proofs.Ytalnlphinlfenaa.XMake.make_any (Kd.int .i64) _ 2 rfl (N := 60) rfl 22 _ _ rfl a0_2 rfl rfl Try.underlying22 (.int .i64 0) 8 info2 rfl (by decide) (by omega) 0 (ok := fun _ => True) (okp := fun _ => True) rfl (fun _ hk => hk) trivial (of_decide_eq_true (by first | (with_reducible assumption) | assumption)) (Nat.le_trans (Nat.mul_le_mul_right _ (of_decide_eq_true (by first | (with_reducible assumption) | assumption) : a0_2.toNat ≤ 35184372088832)) (by omega)) (Below.refl _ _) (Nat.le_refl _) ?_; intro v403 w61 ho62 hb hg_ hnew_; clear hg_ hnew_; (first | rw [← Ny402.out] at ho62 | (simp only [Int.reduceToNat] at ho62; rw [← Ny402.out] at ho62)); have n0_ := Aside0.mk (Kd.R_lower ho62 (below_size (by repeat (first | (with_reducible first | exact HB.out | apply below_alloc | apply pw_below_drewN | apply below_drew1 | refine below_set ?_ GE387.out) | exact HB.out)))); have n1_ := Aside0.mk (blk_below (g := gb387) (o := .cells #[.slice A0_0 l0_0.length c0_0, .int .i64 a0_1, .int .u8 a0_2, .int .i64 a0_3] 47 (0, 0)) (by (with_reducible repeat (first | refine blk_drewN ?_ _ | refine blk_drew ?_ | refine blk_alloc ?_ _)); exact BK387.out) hb); have n2_ := Aside0.mk (below_step (by repeat (first | (with_reducible first | exact HB.out | apply below_alloc | apply pw_below_drewN | apply below_drew1 | refine below_set ?_ GE387.out) | exact HB.out)) hb); clear BK387; clear HB; have HO404 := n0_; have BK387 := n1_; have HB := n2_; clear n0_ n1_ n2_; clear hb ho62) | ((with_reducible refine gate_builtin (b := .append) (xs := #[.tmp 60, .tmp 62]) rfl ?_); at_builtin; refine Kd.R_append (Kd.int .i64) (w0 := w) w.heap.size rfl (.tmp 60) (.tmp 62) 22 2 (.int .i64 0) 8 rfl Try.underlying22 info2 rfl (by decide) (by omega) v403 y402 a0_3 [.int .i64 a0_3] (fun _ => True) (fun _ => False) rfl rfl ?aP (fun _ hk => hk.elim) ?aF ?aO ?aB ?aS ?aL ?_; (case aP => exact rfl); (case aB => exact (by repeat (first | (with_reducible first | exact HB.out | apply below_alloc | apply pw_below_drewN | apply below_drew1 | refine below_set ?_ GE387.out) | exact HB.out))); (case aF => exact (fun _ _ => trivial)); (case aO => exact (by (with_reducible repeat (first | apply Kd.R_alloc | apply Kd.R_drewN | apply Kd.R_drew)); exact HO404.out)); (case aS => exact (below_size (by repeat (first | (with_reducible first | exact HB.out | apply below_alloc | apply pw_below_drewN | apply below_drew1 | refine below_set ?_ GE387.out) | exact HB.out)))); (case aL => have := LMc27.out; omega); intro v406 w63 ho hb hg hat; rw [← Ny405.out] at ho; have n0_ := Aside0.mk (blk_grown (g := gb387) (o := .cells #[.slice A0_0 l0_0.length c0_0, .int .i64 a0_1, .int .u8 a0_2, .int .i64 a0_3] 47 (0, 0)) (by (with_reducible repeat (first | refine blk_drewN ?_ _ | refine blk_drew ?_ | refine blk_alloc ?_ _)); exact BK387.out) hg (Kd.R_ne HO404.out BK387.out (by decide))); have n1_ := Aside0.mk (hb); have n2_ := Aside0.mk (ho); clear BK387; clear HB; clear HO404; have BK387 := n0_; have HB := n1_; have HO407 := n2_; clear n0_ n1_ n2_; clear ho hb hg hat; obtain ⟨Ao64, co64, eo64⟩ := Kd.R_slice HO407.out; subst eo64) | (go_at_call 18; (with_reducible refine (value_Of.calls kj14 _ _ y405 a0_1 t408 t409 _ ?side1 ?side2 A28.out).mono ?_); (case side1 => repeat (first | exact (Kd.R_reads' HO407.out).2.2 | (with_reducible refine Kd.C_alloc ?_ _) | (with_reducible refine Kd.C_drewN ?_ _) | (with_reducible refine Kd.C_drew ?_))); (case side2 => exact (Kd.R_reads' HO407.out).2.1); rintro e w65 ⟨rfl, hb⟩; have n0_ := Aside0.mk (Kd.R_below (by (with_reducible repeat (first | apply Kd.R_alloc | apply Kd.R_drewN | apply Kd.R_drew)); exact HO407.out) hb); have n1_ := Aside0.mk (blk_below (g := gb387) (o := .cells #[.slice A0_0 l0_0.length c0_0, .int .i64 a0_1, .int .u8 a0_2, .int .i64 a0_3] 47 (0, 0)) (by (with_reducible repeat (first | refine blk_drewN ?_ _ | refine blk_drew ?_ | refine blk_alloc ?_ _)); exact BK387.out) hb); have n2_ := Aside0.mk (below_step (by repeat (first | (with_reducible first | exact HB.out | apply below_alloc | apply pw_below_drewN | apply below_drew1 | refine below_set ?_ GE387.out) | exact HB.out)) hb); clear HO407; clear BK387; clear HB; have HO407 := n0_; have BK387 := n1_; have HB := n2_; clear n0_ n1_ n2_; (try clear hb); (try clear hb2); (try clear hk); (try clear hi)) | ((with_reducible refine gate_dst (N := 72) rfl ?_); refine Go.Proofs.Ytalnlphinlfenaa.XMake.make_any (Kd.int .i64) _ 2 rfl (N := 72) rfl 22 _ _ rfl ji29 rfl rfl Try.underlying22 (.int .i64 0) 8 info2 rfl (by decide) (by omega) 0 (ok := fun _ => True) (okp := fun _ => True) rfl (fun _ hk => hk) trivial (of_decide_eq_true (by first | (with_reducible assumption) | assumption)) (Nat.le_trans (Nat.mul_le_mul_right _ (of_decide_eq_true (by first | (with_reducible assumption) | assumption) : ji29.toNat ≤ 35184372088832)) (by omega)) (Below.refl _ _) (Nat.le_refl _) ?_; intro v411 w66 ho67 hb hg_ hnew_; clear hg_ hnew_; (first | rw [← Ny410.out] at ho67 | (simp only [Int.reduceToNat] at ho67; rw [← Ny410.out] at ho67)); have n0_ := Aside0.mk (Kd.R_elder' (by (with_reducible repeat (first | apply Kd.R_alloc | apply Kd.R_drewN | apply Kd.R_drew)); exact HO407.out) (Kd.R_base ho67) hb); have n1_ := Aside0.mk (Kd.R_lower (Kd.R_new' ho67 (Kd.R_lt (by (with_reducible repeat (first | apply Kd.R_alloc | apply Kd.R_drewN | apply Kd.R_drew)); exact HO407.out))) (below_size (by repeat (first | (with_reducible first | exact HB.out | apply below_alloc | apply pw_below_drewN | apply below_drew1 | refine below_set ?_ GE387.out) | exact HB.out)))); have n2_ := Aside0.mk (blk_below (g := gb387) (o := .cells #[.slice A0_0 l0_0.length c0_0, .int .i64 a0_1, .int .u8 a0_2, .int .i64 a0_3] 47 (0, 0)) (by (with_reducible repeat (first | refine blk_drewN ?_ _ | refine blk_drew ?_ | refine blk_alloc ?_ _)); exact BK387.out) hb); have n3_ := Aside0.mk (below_step (by repeat (first | (with_reducible first | exact HB.out | apply below_alloc | apply pw_below_drewN | apply below_drew1 | refine below_set ?_ GE387.out) | exact HB.out)) hb); clear HO407; clear BK387; clear HB; have HO407 := n0_; have HO412 := n1_; have BK387 := n2_; have HB := n3_; clear n0_ n1_ n2_ n3_; clear hb ho67) | ((with_reducible refine gate_builtin (b := .append) (xs := #[.tmp 72, .tmp 74]) rfl ?_); at_builtin; refine Kd.R_append (Kd.int .i64) (w0 := w) w.heap.size rfl (.tmp 72) (.tmp 74) 22 2 (.int .i64 0) 8 rfl Try.underlying22 info2 rfl (by decide) (by omega) v411 y410 a0_3 [.int .i64 a0_3] (fun k_ => some k_ ≠ (.slice Ao64 y405.length co64 : Value).ownBlock) (fun _ => False) rfl rfl ?aP (fun _ hk => hk.elim) ?aF ?aO ?aB ?aS ?aL ?_; (case aP => exact rfl); (case aB => exact (by repeat (first | (with_reducible first | exact HB.out | apply below_alloc | apply pw_below_drewN | apply below_drew1 | refine below_set ?_ GE387.out) | exact HB.out))); (case aF => exact (fun k_ hk => Kd.fresh' (Kd.R_lt (by (with_reducible repeat (first | apply Kd.R_alloc | apply Kd.R_drewN | apply Kd.R_drew)); exact HO407.out)) k_ hk)); (case aO => exact (by (with_reducible repeat (first | apply Kd.R_alloc | apply Kd.R_drewN | apply Kd.R_drew)); exact Kd.R_mono HO412.out (fun _ hk => hk.2))); (case aS => exact (below_size (by repeat (first | (with_reducible first | exact HB.out | apply below_alloc | apply pw_below_drewN | apply below_drew1 | refine below_set ?_ GE387.out) | exact HB.out)))); (case aL => have := LMc32.out; omega); intro v414 w68 ho hb hg hat; rw [← Ny413.out] at ho; have n0_ := Aside0.mk (blk_grown (g := gb387) (o := .cells #[.slice A0_0 l0_0.length c0_0, .int .i64 a0_1, .int .u8 a0_2, .int .i64 a0_3] 47 (0, 0)) (by (with_reducible repeat (first | refine blk_drewN ?_ _ | refine blk_drew ?_ | refine blk_alloc ?_ _)); exact BK387.out) hg (Kd.R_ne HO412.out BK387.out (by decide))); have n1_ := Aside0.mk (Kd.R_after (ok := (fun _ => True)) (by (with_reducible repeat (first | apply Kd.R_alloc | apply Kd.R_drewN | apply Kd.R_drew)); exact HO407.out) hg hat); have n2_ := Aside0.mk (hb); have n3_ := Aside0.mk (ho); clear BK387; clear HO407; clear HB; clear HO412; have BK387 := n0_; have HO407 := n1_; have HB := n2_; have HO415 := n3_; clear n0_ n1_ n2_ n3_; clear ho hb hg hat; obtain ⟨Ao69, co69, eo69⟩ := Kd.R_slice HO415.out; subst eo69) | (go_at_call 18; (with_reducible refine (value_Of.calls kj14 _ _ y413 a0_1 t416 t417 _ ?side1 ?side2 A33.out).mono ?_); (case side1 => repeat (first | exact (Kd.R_reads' HO415.out).2.2 | (with_reducible refine Kd.C_alloc ?_ _) | (with_reducible refine Kd.C_drewN ?_ _) | (with_reducible refine Kd.C_drew ?_))); (case side2 => exact (Kd.R_reads' HO415.out).2.1); rintro e w70 ⟨rfl, hb⟩; have n0_ := Aside0.mk (Kd.R_below (by (with_reducible repeat (first | apply Kd.R_alloc | apply Kd.R_drewN | apply Kd.R_drew)); exact HO407.out) hb); have n1_ := Aside0.mk (Kd.R_below (by (with_reducible repeat (first | apply Kd.R_alloc | apply Kd.R_drewN | apply Kd.R_drew)); exact HO415.out) hb); have n2_ := Aside0.mk (blk_below (g := gb387) (o := .cells #[.slice A0_0 l0_0.length c0_0, .int .i64 a0_1, .int .u8 a0_2, .int .i64 a0_3] 47 (0, 0)) (by (with_reducible repeat (first | refine blk_drewN ?_ _ | refine blk_drew ?_ | refine blk_alloc ?_ _)); exact BK387.out) hb); have n3_ := Aside0.mk (below_step (by repeat (first | (with_reducible first | exact HB.out | apply below_alloc | apply pw_below_drewN | apply below_drew1 | refine below_set ?_ GE387.out) | exact HB.out)) hb); clear HO407; clear HO415; clear BK387; clear HB; have HO407 := n0_; have HO415 := n1_; have BK387 := n2_; have HB := n3_; clear n0_ n1_ n2_ n3_; (try clear hb); (try clear hb2); (try clear hk); (try clear hi)))
                                    repeat (go_quiet (first | ((with_reducible refine gate_dst (N := 60) rfl ?_); refine Go.Proofs.Ytalnlphinlfenaa.XMake.make_any (Kd.int .i64) _ 2 rfl (N := 60) rfl 22 _ _ rfl a0_2 rfl rfl Try.underlying22 (.int .i64 0) 8 info2 rfl (by decide) (by omega) 0 (ok := fun _ => True) (okp := fun _ => True) rfl (fun _ hk => hk) trivial (of_decide_eq_true (by first | (with_reducible assumption) | assumption)) (Nat.le_trans (Nat.mul_le_mul_right _ (of_decide_eq_true (by first | (with_reducible assumption) | assumption) : a0_2.toNat ≤ 35184372088832)) (by omega)) (Below.refl _ _) (Nat.le_refl _) ?_; intro v403 w61 ho62 hb hg_ hnew_; clear hg_ hnew_; (first | rw [← Ny402.out] at ho62 | (simp only [Int.reduceToNat] at ho62; rw [← Ny402.out] at ho62)); have n0_ := Aside0.mk (Kd.R_lower ho62 (below_size (by repeat (first | (with_reducible first | exact HB.out | apply below_alloc | apply pw_below_drewN | apply below_drew1 | refine below_set ?_ GE387.out) | exact HB.out)))); have n1_ := Aside0.mk (blk_below (g := gb387) (o := .cells #[.slice A0_0 l0_0.length c0_0, .int .i64 a0_1, .int .u8 a0_2, .int .i64 a0_3] 47 (0, 0)) (by (with_reducible repeat (first | refine blk_drewN ?_ _ | refine blk_drew ?_ | refine blk_alloc ?_ _)); exact BK387.out) hb); have n2_ := Aside0.mk (below_step (by repeat (first | (with_reducible first | exact HB.out | apply below_alloc | apply pw_below_drewN | apply below_drew1 | refine below_set ?_ GE387.out) | exact HB.out)) hb); clear BK387; clear HB; have HO404 := n0_; have BK387 := n1_; have HB := n2_; clear n0_ n1_ n2_; clear hb ho62) | ((with_reducible refine gate_builtin (b := .append) (xs := #[.tmp 60, .tmp 62]) rfl ?_); at_builtin; refine Kd.R_append (Kd.int .i64) (w0 := w) w.heap.size rfl (.tmp 60) (.tmp 62) 22 2 (.int .i64 0) 8 rfl Try.underlying22 info2 rfl (by decide) (by omega) v403 y402 a0_3 [.int .i64 a0_3] (fun _ => True) (fun _ => False) rfl rfl ?aP (fun _ hk => hk.elim) ?aF ?aO ?aB ?aS ?aL ?_; (case aP => exact rfl); (case aB => exact (by repeat (first | (with_reducible first | exact HB.out | apply below_alloc | apply pw_below_drewN | apply below_drew1 | refine below_set ?_ GE387.out) | exact HB.out))); (case aF => exact (fun _ _ => trivial)); (case aO => exact (by (with_reducible repeat (first | apply Kd.R_alloc | apply Kd.R_drewN | apply Kd.R_drew)); exact HO404.out)); (case aS => exact (below_size (by repeat (first | (with_reducible first | exact HB.out | apply below_alloc | apply pw_below_drewN | apply below_drew1 | refine below_set ?_ GE387.out) | exact HB.out)))); (case aL => have := LMc27.out; omega); intro v406 w63 ho hb hg hat; rw [← Ny405.out] at ho; have n0_ := Aside0.mk (blk_grown (g := gb387) (o := .cells #[.slice A0_0 l0_0.length c0_0, .int .i64 a0_1, .int .u8 a0_2, .int .i64 a0_3] 47 (0, 0)) (by (with_reducible repeat (first | refine blk_drewN ?_ _ | refine blk_drew ?_ | refine blk_alloc ?_ _)); exact BK387.out) hg (Kd.R_ne HO404.out BK387.out (by decide))); have n1_ := Aside0.mk (hb); have n2_ := Aside0.mk (ho); clear BK387; clear HB; clear HO404; have BK387 := n0_; have HB := n1_; have HO407 := n2_; clear n0_ n1_ n2_; clear ho hb hg hat; obtain ⟨Ao64, co64, eo64⟩ := Kd.R_slice HO407.out; subst eo64) | (go_at_call 18; (with_reducible refine (value_Of.calls kj14 _ _ y405 a0_1 t408 t409 _ ?side1 ?side2 A28.out).mono ?_); (case side1 => repeat (first | exact (Kd.R_reads' HO407.out).2.2 | (with_reducible refine Kd.C_alloc ?_ _) | (with_reducible refine Kd.C_drewN ?_ _) | (with_reducible refine Kd.C_drew ?_))); (case side2 => exact (Kd.R_reads' HO407.out).2.1); rintro e w65 ⟨rfl, hb⟩; have n0_ := Aside0.mk (Kd.R_below (by (with_reducible repeat (first | apply Kd.R_alloc | apply Kd.R_drewN | apply Kd.R_drew)); exact HO407.out) hb); have n1_ := Aside0.mk (blk_below (g := gb387) (o := .cells #[.slice A0_0 l0_0.length c0_0, .int .i64 a0_1, .int .u8 a0_2, .int .i64 a0_3] 47 (0, 0)) (by (with_reducible repeat (first | refine blk_drewN ?_ _ | refine blk_drew ?_ | refine blk_alloc ?_ _)); exact BK387.out) hb); have n2_ := Aside0.mk (below_step (by repeat (first | (with_reducible first | exact HB.out | apply below_alloc | apply pw_below_drewN | apply below_drew1 | refine below_set ?_ GE387.out) | exact HB.out)) hb); clear HO407; clear BK387; clear HB; have HO407 := n0_; have BK387 := n1_; have HB := n2_; clear n0_ n1_ n2_; (try clear hb); (try clear hb2); (try clear hk); (try clear hi)) | ((with_reducible refine gate_dst (N := 72) rfl ?_); refine Go.Proofs.Ytalnlphinlfenaa.XMake.make_any (Kd.int .i64) _ 2 rfl (N := 72) rfl 22 _ _ rfl ji29 rfl rfl Try.underlying22 (.int .i64 0) 8 info2 rfl (by decide) (by omega) 0 (ok := fun _ => True) (okp := fun _ => True) rfl (fun _ hk => hk) trivial (of_decide_eq_true (by first | (with_reducible assumption) | assumption)) (Nat.le_trans (Nat.mul_le_mul_right _ (of_decide_eq_true (by first | (with_reducible assumption) | assumption) : ji29.toNat ≤ 35184372088832)) (by omega)) (Below.refl _ _) (Nat.le_refl _) ?_; intro v411 w66 ho67 hb hg_ hnew_; clear hg_ hnew_; (first | rw [← Ny410.out] at ho67 | (simp only [Int.reduceToNat] at ho67; rw [← Ny410.out] at ho67)); have n0_ := Aside0.mk (Kd.R_elder' (by (with_reducible repeat (first | apply Kd.R_alloc | apply Kd.R_drewN | apply Kd.R_drew)); exact HO407.out) (Kd.R_base ho67) hb); have n1_ := Aside0.mk (Kd.R_lower (Kd.R_new' ho67 (Kd.R_lt (by (with_reducible repeat (first | apply Kd.R_alloc | apply Kd.R_drewN | apply Kd.R_drew)); exact HO407.out))) (below_size (by repeat (first | (with_reducible first | exact HB.out | apply below_alloc | apply pw_below_drewN | apply below_drew1 | refine below_set ?_ GE387.out) | exact HB.out)))); have n2_ := Aside0.mk (blk_below (g := gb387) (o := .cells #[.slice A0_0 l0_0.length c0_0, .int .i64 a0_1, .int .u8 a0_2, .int .i64 a0_3] 47 (0, 0)) (by (with_reducible repeat (first | refine blk_drewN ?_ _ | refine blk_drew ?_ | refine blk_alloc ?_ _)); exact BK387.out) hb); have n3_ := Aside0.mk (below_step (by repeat (first | (with_reducible first | exact HB.out | apply below_alloc | apply pw_below_drewN | apply below_drew1 | refine below_set ?_ GE387.out) | exact HB.out)) hb); clear HO407; clear BK387; clear HB; have HO407 := n0_; have HO412 := n1_; have BK387 := n2_; have HB := n3_; clear n0_ n1_ n2_ n3_; clear hb ho67) | ((with_reducible refine gate_builtin (b := .append) (xs := #[.tmp 72, .tmp 74]) rfl ?_); at_builtin; refine Kd.R_append (Kd.int .i64) (w0 := w) w.heap.size rfl (.tmp 72) (.tmp 74) 22 2 (.int .i64 0) 8 rfl Try.underlying22 info2 rfl (by decide) (by omega) v411 y410 a0_3 [.int .i64 a0_3] (fun k_ => some k_ ≠ (.slice Ao64 y405.length co64 : Value).ownBlock) (fun _ => False) rfl rfl ?aP (fun _ hk => hk.elim) ?aF ?aO ?aB ?aS ?aL ?_; (case aP => exact rfl); (case aB => exact (by repeat (first | (with_reducible first | exact HB.out | apply below_alloc | apply pw_below_drewN | apply below_drew1 | refine below_set ?_ GE387.out) | exact HB.out))); (case aF => exact (fun k_ hk => Kd.fresh' (Kd.R_lt (by (with_reducible repeat (first | apply Kd.R_alloc | apply Kd.R_drewN | apply Kd.R_drew)); exact HO407.out)) k_ hk)); (case aO => exact (by (with_reducible repeat (first | apply Kd.R_alloc | apply Kd.R_drewN | apply Kd.R_drew)); exact Kd.R_mono HO412.out (fun _ hk => hk.2))); (case aS => exact (below_size (by repeat (first | (with_reducible first | exact HB.out | apply below_alloc | apply pw_below_drewN | apply below_drew1 | refine below_set ?_ GE387.out) | exact HB.out)))); (case aL => have := LMc32.out; omega); intro v414 w68 ho hb hg hat; rw [← Ny413.out] at ho; have n0_ := Aside0.mk (blk_grown (g := gb387) (o := .cells #[.slice A0_0 l0_0.length c0_0, .int .i64 a0_1, .int .u8 a0_2, .int .i64 a0_3] 47 (0, 0)) (by (with_reducible repeat (first | refine blk_drewN ?_ _ | refine blk_drew ?_ | refine blk_alloc ?_ _)); exact BK387.out) hg (Kd.R_ne HO412.out BK387.out (by decide))); have n1_ := Aside0.mk (Kd.R_after (ok := (fun _ => True)) (by (with_reducible repeat (first | apply Kd.R_alloc | apply Kd.R_drewN | apply Kd.R_drew)); exact HO407.out) hg hat); have n2_ := Aside0.mk (hb); have n3_ := Aside0.mk (ho); clear BK387; clear HO407; clear HB; clear HO412; have BK387 := n0_; have HO407 := n1_; have HB := n2_; have HO415 := n3_; clear n0_ n1_ n2_ n3_; clear ho hb hg hat; obtain ⟨Ao69, co69, eo69⟩ := Kd.R_slice HO415.out; subst eo69) | (go_at_call 18; (with_reducible refine (value_Of.calls kj14 _ _ y413 a0_1 t416 t417 _ ?side1 ?side2 A33.out).mono ?_); (case side1 => repeat (first | exact (Kd.R_reads' HO415.out).2.2 | (with_reducible refine Kd.C_alloc ?_ _) | (with_reducible refine Kd.C_drewN ?_ _) | (with_reducible refine Kd.C_drew ?_))); (case side2 => exact (Kd.R_reads' HO415.out).2.1); rintro e w70 ⟨rfl, hb⟩; have n0_ := Aside0.mk (Kd.R_below (by (with_reducible repeat (first | apply Kd.R_alloc | apply Kd.R_drewN | apply Kd.R_drew)); exact HO407.out) hb); have n1_ := Aside0.mk (Kd.R_below (by (with_reducible repeat (first | apply Kd.R_alloc | apply Kd.R_drewN | apply Kd.R_drew)); exact HO415.out) hb); have n2_ := Aside0.mk (blk_below (g := gb387) (o := .cells #[.slice A0_0 l0_0.length c0_0, .int .i64 a0_1, .int .u8 a0_2, .int .i64 a0_3] 47 (0, 0)) (by (with_reducible repeat (first | refine blk_drewN ?_ _ | refine blk_drew ?_ | refine blk_alloc ?_ _)); exact BK387.out) hb); have n3_ := Aside0.mk (below_step (by repeat (first | (with_reducible first | exact HB.out | apply below_alloc | apply pw_below_drewN | apply below_drew1 | refine below_set ?_ GE387.out) | exact HB.out)) hb); clear HO407; clear HO415; clear BK387; clear HB; have HO407 := n0_; have HO415 := n1_; have BK387 := n2_; have HB := n3_; clear n0_ n1_ n2_ n3_; (try clear hb); (try clear hb2); (try clear hk); (try clear hi))); try go_wp2_with (first | ((with_reducible refine gate_dst (N := 60) rfl ?_); refine Go.Proofs.Ytalnlphinlfenaa.XMake.make_any (Kd.int .i64) _ 2 rfl (N := 60) rfl 22 _ _ rfl a0_2 rfl rfl Try.underlying22 (.int .i64 0) 8 info2 rfl (by decide) (by omega) 0 (ok := fun _ => True) (okp := fun _ => True) rfl (fun _ hk => hk) trivial (of_decide_eq_true (by first | (with_reducible assumption) | assumption)) (Nat.le_trans (Nat.mul_le_mul_right _ (of_decide_eq_true (by first | (with_reducible assumption) | assumption) : a0_2.toNat ≤ 35184372088832)) (by omega)) (Below.refl _ _) (Nat.le_refl _) ?_; intro v403 w61 ho62 hb hg_ hnew_; clear hg_ hnew_; (first | rw [← Ny402.out] at ho62 | (simp only [Int.reduceToNat] at ho62; rw [← Ny402.out] at ho62)); have n0_ := Aside0.mk (Kd.R_lower ho62 (below_size (by repeat (first | (with_reducible first | exact HB.out | apply below_alloc | apply pw_below_drewN | apply below_drew1 | refine below_set ?_ GE387.out) | exact HB.out)))); have n1_ := Aside0.mk (blk_below (g := gb387) (o := .cells #[.slice A0_0 l0_0.length c0_0, .int .i64 a0_1, .int .u8 a0_2, .int .i64 a0_3] 47 (0, 0)) (by (with_reducible repeat (first | refine blk_drewN ?_ _ | refine blk_drew ?_ | refine blk_alloc ?_ _)); exact BK387.out) hb); have n2_ := Aside0.mk (below_step (by repeat (first | (with_reducible first | exact HB.out | apply below_alloc | apply pw_below_drewN | apply below_drew1 | refine below_set ?_ GE387.out) | exact HB.out)) hb); clear BK387; clear HB; have HO404 := n0_; have BK387 := n1_; have HB := n2_; clear n0_ n1_ n2_; clear hb ho62) | ((with_reducible refine gate_builtin (b := .append) (xs := #[.tmp 60, .tmp 62]) rfl ?_); at_builtin; refine Kd.R_append (Kd.int .i64) (w0 := w) w.heap.size rfl (.tmp 60) (.tmp 62) 22 2 (.int .i64 0) 8 rfl Try.underlying22 info2 rfl (by decide) (by omega) v403 y402 a0_3 [.int .i64 a0_3] (fun _ => True) (fun _ => False) rfl rfl ?aP (fun _ hk => hk.elim) ?aF ?aO ?aB ?aS ?aL ?_; (case aP => exact rfl); (case aB => exact (by repeat (first | (with_reducible first | exact HB.out | apply below_alloc | apply pw_below_drewN | apply below_drew1 | refine below_set ?_ GE387.out) | exact HB.out))); (case aF => exact (fun _ _ => trivial)); (case aO => exact (by (with_reducible repeat (first | apply Kd.R_alloc | apply Kd.R_drewN | apply Kd.R_drew)); exact HO404.out)); (case aS => exact (below_size (by repeat (first | (with_reducible first | exact HB.out | apply below_alloc | apply pw_below_drewN | apply below_drew1 | refine below_set ?_ GE387.out) | exact HB.out)))); (case aL => have := LMc27.out; omega); intro v406 w63 ho hb hg hat; rw [← Ny405.out] at ho; have n0_ := Aside0.mk (blk_grown (g := gb387) (o := .cells #[.slice A0_0 l0_0.length c0_0, .int .i64 a0_1, .int .u8 a0_2, .int .i64 a0_3] 47 (0, 0)) (by (with_reducible repeat (first | refine blk_drewN ?_ _ | refine blk_drew ?_ | refine blk_alloc ?_ _)); exact BK387.out) hg (Kd.R_ne HO404.out BK387.out (by decide))); have n1_ := Aside0.mk (hb); have n2_ := Aside0.mk (ho); clear BK387; clear HB; clear HO404; have BK387 := n0_; have HB := n1_; have HO407 := n2_; clear n0_ n1_ n2_; clear ho hb hg hat; obtain ⟨Ao64, co64, eo64⟩ := Kd.R_slice HO407.out; subst eo64) | (go_at_call 18; (with_reducible refine (value_Of.calls kj14 _ _ y405 a0_1 t408 t409 _ ?side1 ?side2 A28.out).mono ?_); (case side1 => repeat (first | exact (Kd.R_reads' HO407.out).2.2 | (with_reducible refine Kd.C_alloc ?_ _) | (with_reducible refine Kd.C_drewN ?_ _) | (with_reducible refine Kd.C_drew ?_))); (case side2 => exact (Kd.R_reads' HO407.out).2.1); rintro e w65 ⟨rfl, hb⟩; have n0_ := Aside0.mk (Kd.R_below (by (with_reducible repeat (first | apply Kd.R_alloc | apply Kd.R_drewN | apply Kd.R_drew)); exact HO407.out) hb); have n1_ := Aside0.mk (blk_below (g := gb387) (o := .cells #[.slice A0_0 l0_0.length c0_0, .int .i64 a0_1, .int .u8 a0_2, .int .i64 a0_3] 47 (0, 0)) (by (with_reducible repeat (first | refine blk_drewN ?_ _ | refine blk_drew ?_ | refine blk_alloc ?_ _)); exact BK387.out) hb); have n2_ := Aside0.mk (below_step (by repeat (first | (with_reducible first | exact HB.out | apply below_alloc | apply pw_below_drewN | apply below_drew1 | refine below_set ?_ GE387.out) | exact HB.out)) hb); clear HO407; clear BK387; clear HB; have HO407 := n0_; have BK387 := n1_; have HB := n2_; clear n0_ n1_ n2_; (try clear hb); (try clear hb2); (try clear hk); (try clear hi)) | ((with_reducible refine gate_dst (N := 72) rfl ?_); refine Go.Proofs.Ytalnlphinlfenaa.XMake.make_any (Kd.int .i64) _ 2 rfl (N := 72) rfl 22 _ _ rfl ji29 rfl rfl Try.underlying22 (.int .i64 0) 8 info2 rfl (by decide) (by omega) 0 (ok := fun _ => True) (okp := fun _ => True) rfl (fun _ hk => hk) trivial (of_decide_eq_true (by first | (with_reducible assumption) | assumption)) (Nat.le_trans (Nat.mul_le_mul_right _ (of_decide_eq_true (by first | (with_reducible assumption) | assumption) : ji29.toNat ≤ 35184372088832)) (by omega)) (Below.refl _ _) (Nat.le_refl _) ?_; intro v411 w66 ho67 hb hg_ hnew_; clear hg_ hnew_; (first | rw [← Ny410.out] at ho67 | (simp only [Int.reduceToNat] at ho67; rw [← Ny410.out] at ho67)); have n0_ := Aside0.mk (Kd.R_elder' (by (with_reducible repeat (first | apply Kd.R_alloc | apply Kd.R_drewN | apply Kd.R_drew)); exact HO407.out) (Kd.R_base ho67) hb); have n1_ := Aside0.mk (Kd.R_lower (Kd.R_new' ho67 (Kd.R_lt (by (with_reducible repeat (first | apply Kd.R_alloc | apply Kd.R_drewN | apply Kd.R_drew)); exact HO407.out))) (below_size (by repeat (first | (with_reducible first | exact HB.out | apply below_alloc | apply pw_below_drewN | apply below_drew1 | refine below_set ?_ GE387.out) | exact HB.out)))); have n2_ := Aside0.mk (blk_below (g := gb387) (o := .cells #[.slice A0_0 l0_0.length c0_0, .int .i64 a0_1, .int .u8 a0_2, .int .i64 a0_3] 47 (0, 0)) (by (with_reducible repeat (first | refine blk_drewN ?_ _ | refine blk_drew ?_ | refine blk_alloc ?_ _)); exact BK387.out) hb); have n3_ := Aside0.mk (below_step (by repeat (first | (with_reducible first | exact HB.out | apply below_alloc | apply pw_below_drewN | apply below_drew1 | refine below_set ?_ GE387.out) | exact HB.out)) hb); clear HO407; clear BK387; clear HB; have HO407 := n0_; have HO412 := n1_; have BK387 := n2_; have HB := n3_; clear n0_ n1_ n2_ n3_; clear hb ho67) | ((with_reducible refine gate_builtin (b := .append) (xs := #[.tmp 72, .tmp 74]) rfl ?_); at_builtin; refine Kd.R_append (Kd.int .i64) (w0 := w) w.heap.size rfl (.tmp 72) (.tmp 74) 22 2 (.int .i64 0) 8 rfl Try.underlying22 info2 rfl (by decide) (by omega) v411 y410 a0_3 [.int .i64 a0_3] (fun k_ => some k_ ≠ (.slice Ao64 y405.length co64 : Value).ownBlock) (fun _ => False) rfl rfl ?aP (fun _ hk => hk.elim) ?aF ?aO ?aB ?aS ?aL ?_; (case aP => exact rfl); (case aB => exact (by repeat (first | (with_reducible first | exact HB.out | apply below_alloc | apply pw_below_drewN | apply below_drew1 | refine below_set ?_ GE387.out) | exact HB.out))); (case aF => exact (fun k_ hk => Kd.fresh' (Kd.R_lt (by (with_reducible repeat (first | apply Kd.R_alloc | apply Kd.R_drewN | apply Kd.R_drew)); exact HO407.out)) k_ hk)); (case aO => exact (by (with_reducible repeat (first | apply Kd.R_alloc | apply Kd.R_drewN | apply Kd.R_drew)); exact Kd.R_mono HO412.out (fun _ hk => hk.2))); (case aS => exact (below_size (by repeat (first | (with_reducible first | exact HB.out | apply below_alloc | apply pw_below_drewN | apply below_drew1 | refine below_set ?_ GE387.out) | exact HB.out)))); (case aL => have := LMc32.out; omega); intro v414 w68 ho hb hg hat; rw [← Ny413.out] at ho; have n0_ := Aside0.mk (blk_grown (g := gb387) (o := .cells #[.slice A0_0 l0_0.length c0_0, .int .i64 a0_1, .int .u8 a0_2, .int .i64 a0_3] 47 (0, 0)) (by (with_reducible repeat (first | refine blk_drewN ?_ _ | refine blk_drew ?_ | refine blk_alloc ?_ _)); exact BK387.out) hg (Kd.R_ne HO412.out BK387.out (by decide))); have n1_ := Aside0.mk (Kd.R_after (ok := (fun _ => True)) (by (with_reducible repeat (first | apply Kd.R_alloc | apply Kd.R_drewN | apply Kd.R_drew)); exact HO407.out) hg hat); have n2_ := Aside0.mk (hb); have n3_ := Aside0.mk (ho); clear BK387; clear HO407; clear HB; clear HO412; have BK387 := n0_; have HO407 := n1_; have HB := n2_; have HO415 := n3_; clear n0_ n1_ n2_ n3_; clear ho hb hg hat; obtain ⟨Ao69, co69, eo69⟩ := Kd.R_slice HO415.out; subst eo69) | (go_at_call 18; (with_reducible refine (value_Of.calls kj14 _ _ y413 a0_1 t416 t417 _ ?side1 ?side2 A33.out).mono ?_); (case side1 => repeat (first | exact (Kd.R_reads' HO415.out).2.2 | (with_reducible refine Kd.C_alloc ?_ _) | (with_reducible refine Kd.C_drewN ?_ _) | (with_reducible refine Kd.C_drew ?_))); (case side2 => exact (Kd.R_reads' HO415.out).2.1); rintro e w70 ⟨rfl, hb⟩; have n0_ := Aside0.mk (Kd.R_below (by (with_reducible repeat (first | apply Kd.R_alloc | apply Kd.R_drewN | apply Kd.R_drew)); exact HO407.out) hb); have n1_ := Aside0.mk (Kd.R_below (by (with_reducible repeat (first | apply Kd.R_alloc | apply Kd.R_drewN | apply Kd.R_drew)); exact HO415.out) hb); have n2_ := Aside0.mk (blk_below (g := gb387) (o := .cells #[.slice A0_0 l0_0.length c0_0, .int .i64 a0_1, .int .u8 a0_2, .int .i64 a0_3] 47 (0, 0)) (by (with_reducible repeat (first | refine blk_drewN ?_ _ | refine blk_drew ?_ | refine blk_alloc ?_ _)); exact BK387.out) hb); have n3_ := Aside0.mk (below_step (by repeat (first | (with_reducible first | exact HB.out | apply below_alloc | apply pw_below_drewN | apply below_drew1 | refine below_set ?_ GE387.out) | exact HB.out)) hb); clear HO407; clear HO415; clear BK387; clear HB; have HO407 := n0_; have HO415 := n1_; have BK387 := n2_; have HB := n3_; clear n0_ n1_ n2_ n3_; (try clear hb); (try clear hb2); (try clear hk); (try clear hi))))
                                    go_ret
                                    exact ⟨by first | rfl | (simp [errW_none, errW_some] <;> rfl) | (simp only [← hji29]; first | rfl | (simp [errW_none, errW_some] <;> rfl)) | (simp [*, errW_none, errW_some] <;> rfl), by repeat (first | (with_reducible first | exact HB.out | apply below_alloc | apply pw_below_drewN | apply below_drew1 | refine below_set ?_ GE387.out) | exact HB.out)⟩
                                · rw [if_neg c32] at H
                                  exact absurd H (by simp)
                              · rw [if_neg c31] at H
                                exact absurd H (by simp)
                            · rw [if_neg c30] at H
                              exact absurd H (by simp)
                          · rw [if_neg c27] at H
                            exact absurd H (by simp)
                        · rw [if_neg c26] at H
                          exact absurd H (by simp)
                      · rw [if_neg c25] at H
                        exact absurd H (by simp)
              · rw [if_neg c13] at H
                exact absurd H (by simp)
            · rw [if_neg c12] at H
              exact absurd H (by simp)
          · rw [if_neg c11] at H
            exact absurd H (by simp)
  · replace c3 := Bool.eq_false_iff.mpr c3
    subst c3
    have H1 : (some false) = some r := by rw [if_neg (show ¬ (false = true) by decide)] at H; exact H
    clear H
    have H := H1
    clear H1
    obtain rfl := Option.some.inj H
    go_enter Try.func7, Try.ntmps7
    go_wp2_with (first | ((with_reducible refine gate_dst (N := 1) rfl ?_); refine box_event ?hg (N := 1) ?hd (cs := #[.slice A0_0 l0_0.length c0_0, .int .i64 a0_1, .int .u8 a0_2, .int .i64 a0_3]) (t := 47) ?hr ?_; (case hd => rfl); (case hg => rfl); (case hr => first | (go_simp; done) | (go_simp; rfl)); intro gb387 hg w71 hbox hb; have n0_ := Aside0.mk (below_step (by repeat (first | (with_reducible first | exact HB.out | apply below_alloc | apply pw_below_drewN | apply below_drew1) | exact HB.out)) hb); have n1_ := Aside0.mk (hbox); have n2_ := Aside0.mk ((by rw [hg]; exact (below_size (by repeat (first | (with_reducible first | exact HB.out | apply below_alloc | apply pw_below_drewN | apply below_drew1) | exact HB.out))) : w.heap.size ≤ gb387)); have n3_ := Aside0.mk ((by rw [hg]; exact (below_size (by repeat (first | (with_reducible first | exact HB.out | apply below_alloc | apply pw_below_drewN | apply below_drew1) | exact HB.out))) : w.heap.size ≤ gb387)); clear HB; have HB := n0_; have BK387 := n1_; have GW387 := n2_; have GE387 := n3_; clear n0_ n1_ n2_ n3_; clear hb hbox hg) | (go_at_call 16; (with_reducible refine (lombardlaw09_alive.calls k  false _ A2.out).mono ?_); rintro e w72 ⟨rfl, hb⟩; have n0_ := Aside0.mk (blk_below (g := gb387) (o := .cells #[.slice A0_0 l0_0.length c0_0, .int .i64 a0_1, .int .u8 a0_2, .int .i64 a0_3] 47 (0, 0)) (by (with_reducible repeat (first | refine blk_drewN ?_ _ | refine blk_drew ?_ | refine blk_alloc ?_ _)); exact BK387.out) hb); have n1_ := Aside0.mk (below_step (by repeat (first | (with_reducible first | exact HB.out | apply below_alloc | apply pw_below_drewN | apply below_drew1 | refine below_set ?_ GE387.out) | exact HB.out)) hb); clear BK387; clear HB; have BK387 := n0_; have HB := n1_; clear n0_ n1_; (try clear hb); (try clear hb2); (try clear hk); (try clear hi)))
    repeat (go_quiet (first | ((with_reducible refine gate_dst (N := 1) rfl ?_); refine box_event ?hg (N := 1) ?hd (cs := #[.slice A0_0 l0_0.length c0_0, .int .i64 a0_1, .int .u8 a0_2, .int .i64 a0_3]) (t := 47) ?hr ?_; (case hd => rfl); (case hg => rfl); (case hr => first | (go_simp; done) | (go_simp; rfl)); intro gb387 hg w71 hbox hb; have n0_ := Aside0.mk (below_step (by repeat (first | (with_reducible first | exact HB.out | apply below_alloc | apply pw_below_drewN | apply below_drew1) | exact HB.out)) hb); have n1_ := Aside0.mk (hbox); have n2_ := Aside0.mk ((by rw [hg]; exact (below_size (by repeat (first | (with_reducible first | exact HB.out | apply below_alloc | apply pw_below_drewN | apply below_drew1) | exact HB.out))) : w.heap.size ≤ gb387)); have n3_ := Aside0.mk ((by rw [hg]; exact (below_size (by repeat (first | (with_reducible first | exact HB.out | apply below_alloc | apply pw_below_drewN | apply below_drew1) | exact HB.out))) : w.heap.size ≤ gb387)); clear HB; have HB := n0_; have BK387 := n1_; have GW387 := n2_; have GE387 := n3_; clear n0_ n1_ n2_ n3_; clear hb hbox hg) | (go_at_call 16; (with_reducible refine (lombardlaw09_alive.calls k  false _ A2.out).mono ?_); rintro e w72 ⟨rfl, hb⟩; have n0_ := Aside0.mk (blk_below (g := gb387) (o := .cells #[.slice A0_0 l0_0.length c0_0, .int .i64 a0_1, .int .u8 a0_2, .int .i64 a0_3] 47 (0, 0)) (by (with_reducible repeat (first | refine blk_drewN ?_ _ | refine blk_drew ?_ | refine blk_alloc ?_ _)); exact BK387.out) hb); have n1_ := Aside0.mk (below_step (by repeat (first | (with_reducible first | exact HB.out | apply below_alloc | apply pw_below_drewN | apply below_drew1 | refine below_set ?_ GE387.out) | exact HB.out)) hb); clear BK387; clear HB; have BK387 := n0_; have HB := n1_; clear n0_ n1_; (try clear hb); (try clear hb2); (try clear hk); (try clear hi))); try go_wp2_with (first | ((with_reducible refine gate_dst (N := 1) rfl ?_); refine box_event ?hg (N := 1) ?hd (cs := #[.slice A0_0 l0_0.length c0_0, .int .i64 a0_1, .int .u8 a0_2, .int .i64 a0_3]) (t := 47) ?hr ?_; (case hd => rfl); (case hg => rfl); (case hr => first | (go_simp; done) | (go_simp; rfl)); intro gb387 hg w71 hbox hb; have n0_ := Aside0.mk (below_step (by repeat (first | (with_reducible first | exact HB.out | apply below_alloc | apply pw_below_drewN | apply below_drew1) | exact HB.out)) hb); have n1_ := Aside0.mk (hbox); have n2_ := Aside0.mk ((by rw [hg]; exact (below_size (by repeat (first | (with_reducible first | exact HB.out | apply below_alloc | apply pw_below_drewN | apply below_drew1) | exact HB.out))) : w.heap.size ≤ gb387)); have n3_ := Aside0.mk ((by rw [hg]; exact (below_size (by repeat (first | (with_reducible first | exact HB.out | apply below_alloc | apply pw_below_drewN | apply below_drew1) | exact HB.out))) : w.heap.size ≤ gb387)); clear HB; have HB := n0_; have BK387 := n1_; have GW387 := n2_; have GE387 := n3_; clear n0_ n1_ n2_ n3_; clear hb hbox hg) | (go_at_call 16; (with_reducible refine (lombardlaw09_alive.calls k  false _ A2.out).mono ?_); rintro e w72 ⟨rfl, hb⟩; have n0_ := Aside0.mk (blk_below (g := gb387) (o := .cells #[.slice A0_0 l0_0.length c0_0, .int .i64 a0_1, .int .u8 a0_2, .int .i64 a0_3] 47 (0, 0)) (by (with_reducible repeat (first | refine blk_drewN ?_ _ | refine blk_drew ?_ | refine blk_alloc ?_ _)); exact BK387.out) hb); have n1_ := Aside0.mk (below_step (by repeat (first | (with_reducible first | exact HB.out | apply below_alloc | apply pw_below_drewN | apply below_drew1 | refine below_set ?_ GE387.out) | exact HB.out)) hb); clear BK387; clear HB; have BK387 := n0_; have HB := n1_; clear n0_ n1_; (try clear hb); (try clear hb2); (try clear hk); (try clear hi))))
    go_ret
    exact ⟨by first | rfl | (simp [errW_none, errW_some] <;> rfl) | (simp [*, errW_none, errW_some] <;> rfl), by repeat (first | (with_reducible first | exact HB.out | apply below_alloc | apply pw_below_drewN | apply below_drew1 | refine below_set ?_ GE387.out) | exact HB.out)⟩

/-- THE PURE STATEMENT of lombardlaw09_ValueEnds. -/
def lombardlaw09_ValueEnds.Pure : Prop := ∀ (l0_0 : List Int) (a0_1 : Int) (a0_2 : Int) (a0_3 : Int), (l0_0.length ≤ maxLen ∧ ∀ y_ ∈ l0_0, (Lit.int .i64 y_).wf = true) → (Lit.int .i64 a0_1).wf = true → (Lit.int .u8 a0_2).wf = true → (Lit.int .i64 a0_3).wf = true → ∃ k, lombardlaw09_ValueEnds.f k l0_0 a0_1 a0_2 a0_3 = some true
theorem lombardlaw09_ValueEnds.walk (P : lombardlaw09_ValueEnds.Pure) (A0_0 : Option Addr) (c0_0 : Nat) (l0_0 : List Int) (a0_1 : Int) (a0_2 : Int) (a0_3 : Int) (w : World) (hr0_0 : Kd.C (Kd.int .i64) w A0_0 l0_0.length l0_0) (hc0_0 : l0_0.length ≤ c0_0) (hg0_0 : (l0_0.length ≤ maxLen ∧ ∀ y_ ∈ l0_0, (Lit.int .i64 y_).wf = true)) (hg0_1 : (Lit.int .i64 a0_1).wf = true) (hg0_2 : (Lit.int .u8 a0_2).wf = true) (hg0_3 : (Lit.int .i64 a0_3).wf = true) :
    Calls Try.prog 7 #[.agg #[.slice A0_0 l0_0.length c0_0, .int .i64 a0_1, .int .u8 a0_2, .int .i64 a0_3]] w fun e w' => e = .returned (.bool true) ∧ Below w.heap.size w w' := by
  obtain ⟨k, h⟩ := P l0_0 a0_1 a0_2 a0_3 hg0_0 hg0_1 hg0_2 hg0_3
  refine (lombardlaw09_ValueEnds.calls k A0_0 c0_0 l0_0 a0_1 a0_2 a0_3 true w hr0_0 hc0_0 h).mono ?_
  rintro e w' ⟨rfl, hd⟩
  exact ⟨rfl, hd⟩

end Go.Proofs.Ytalnlphinlfenaa.S
end

section
namespace Go.Proofs.Ytalnlphinlfenaa.S
open Go.RowKit Go.Proofs.YtalnlphinlfenaaW.PrintWords Go.Proofs.YtalnlphinlfenaaW.PrintLast Go.Proofs.YtalnlphinlfenaaW.PrintMore
attribute [local go_sem] max2_int min2_int max_two min_two max_three min_three max_four min_four   -- for this text's walks alone
attribute [local go_sem] Go.Proofs.Ytalnlphinlfenaa.XWalk.cell2
set_option linter.unusedVariables false
set_option linter.unusedSimpArgs false

/-! ### money_Sum: function 20 -/
def money_Sum.l0 : Nat → Int → Int → List Int → Int → Int → Option (Int × Int)
  | 0, _, _, _, _, _ => none
  | k + 1, x4, x5, x10, x11, x12 => if x12 < x11 then (if 0 ≤ x12 then (if x12 < (x10.length : Int) then (if 0 ≤ x4 then (if 0 ≤ (IntKind.u64.wrap (rd x10 x12)) then (money_Sum.l0 k (Go.Proofs.Ytalnlphinlfenaa.XWalk.s64 x4 (IntKind.u64.wrap (rd x10 x12)) 0) (wrap64 ((wrap64 (x5 + ((rd x10 x12) / 9223372036854775808))) + (wrap64 (Go.Proofs.Ytalnlphinlfenaa.XWalk.c64 x4 (IntKind.u64.wrap (rd x10 x12)) 0)))) x10 x11 (wrap64 (x12 + 1))) else (none)) else (none)) else (none)) else (none)) else ((money_told.f (wrap64 (x4)) (x5 == ((wrap64 (x4)) / 9223372036854775808))).bind fun bt421 => (some (bt421.1, bt421.2)))
def money_Sum.f (k : Nat) (l0 : List Int) : Option (Int × Int) := money_Sum.l0 k 0 0 l0 (l0.length : Int) 0
end Go.Proofs.Ytalnlphinlfenaa.S
end

section
namespace Go.Proofs.Ytalnlphinlfenaa.XSum
set_option linter.unusedVariables false
set_option linter.unusedSimpArgs false
open Go.RowKit Go.Proofs.Ytalnlphinlfenaa.S Go.Proofs.Ytalnlphinlfenaa.XNum Go.Proofs.Ytalnlphinlfenaa.XBits Go.Proofs.Ytalnlphinlfenaa.XWide Go.Proofs.Ytalnlphinlfenaa.XMoney Go.Proofs.YtalnlphinlfenaaW.PrintWords

/-- all together -/
def tot : List Int → Int
  | [] => 0
  | x :: l => x + tot l
theorem tot_append (a b : List Int) : tot (a ++ b) = tot a + tot b := by
  induction a with
  | nil => simp [tot]
  | cons x a ih => simp only [List.cons_append, tot, ih]; omega
theorem rd_lt {l : List Int} {i : Nat} (h : i < l.length) : rd l (i : Int) = l[i] := by
  unfold rd
  simp [h]
theorem tot_take {l : List Int} {i : Nat} (h : i < l.length) : tot (l.take (i + 1)) = tot (l.take i) + l[i] := by
  rw [List.take_add_one, List.getElem?_eq_getElem h, tot_append]
  simp [tot]

theorem sum_l0 {l : List Int} (hl : ∀ x ∈ l, I64 x) (hn : l.length ≤ 1099511627776) : ∀ (d i : Nat) (lo hi : Int) (k : Nat), i + d = l.length → d + 1 ≤ k → 0 ≤ lo → lo < 18446744073709551616 → -(i : Int) ≤ hi → hi ≤ i →
    hi * 18446744073709551616 + lo = tot (l.take i) → money_Sum.l0 k lo hi l l.length i = some (told (tot l)) := by
  intro d
  induction d with
  | zero =>
    intro i lo hi k hi' hk l0 l1 h0 h1 e
    obtain ⟨k, rfl⟩ : ∃ m, k = m + 1 := ⟨k - 1, by omega⟩
    rw [List.take_of_length_le (by omega)] at e
    simp only [money_Sum.l0]
    rw [if_neg (by omega), told_f, ← e]
    simp only [Option.bind_some]
    by_cases c : -9223372036854775808 ≤ hi * 18446744073709551616 + lo ∧ hi * 18446744073709551616 + lo ≤ 9223372036854775807
    · rw [told_in c.1 c.2, if_pos (by rw [beq_iff_eq]; unfold wrap64; omega)]
      congr 2
      unfold wrap64
      omega
    · rw [told_out (by omega), if_neg (by rw [beq_iff_eq]; unfold wrap64; omega)]
  | succ d ih =>
    intro i lo hi k hi' hk l0 l1 h0 h1 e
    obtain ⟨k, rfl⟩ : ∃ m, k = m + 1 := ⟨k - 1, by omega⟩
    have hlt : i < l.length := by omega
    obtain ⟨x0, x1⟩ := hl l[i] (List.getElem_mem hlt)
    simp only [money_Sum.l0]
    rw [if_pos (by omega), if_pos (by omega), if_pos (by omega), if_pos l0, rd_lt hlt, if_pos (by rw [wu]; omega), w64 (n := (i : Int) + 1) (by omega) (by omega)]
    have c0 : 0 ≤ XWalk.c64 lo (IntKind.u64.wrap l[i]) 0 ∧ XWalk.c64 lo (IntKind.u64.wrap l[i]) 0 ≤ 1 := by
      rw [wu]; unfold XWalk.c64; omega
    have s0 : 0 ≤ XWalk.s64 lo (IntKind.u64.wrap l[i]) 0 ∧ XWalk.s64 lo (IntKind.u64.wrap l[i]) 0 < 18446744073709551616 := by
      unfold XWalk.s64; omega
    have e0 : XWalk.c64 lo (IntKind.u64.wrap l[i]) 0 * 18446744073709551616 + XWalk.s64 lo (IntKind.u64.wrap l[i]) 0 = lo + l[i] - l[i] / 9223372036854775808 * 18446744073709551616 := by
      rw [wu]; unfold XWalk.c64 XWalk.s64; omega
    generalize XWalk.c64 lo (IntKind.u64.wrap l[i]) 0 = c at *
    generalize XWalk.s64 lo (IntKind.u64.wrap l[i]) 0 = s at *
    have d0 : -1 ≤ l[i] / 9223372036854775808 ∧ l[i] / 9223372036854775808 ≤ 0 := by omega
    rw [w64 (n := c) (by omega) (by omega), w64 (n := hi + l[i] / 9223372036854775808) (by omega) (by omega), w64 (n := hi + l[i] / 9223372036854775808 + c) (by omega) (by omega)]
    refine ih (i + 1) _ _ k (by omega) (by omega) s0.1 s0.2 (by omega) (by omega) ?_
    rw [tot_take hlt, ← e]
    omega

theorem sum {l : List Int} (hl : ∀ x ∈ l, I64 x) (hn : l.length ≤ 1099511627776) {k : Nat} (hk : l.length + 1 ≤ k) : money_Sum.f k l = some (told (tot l)) := by
  unfold money_Sum.f
  exact sum_l0 hl hn l.length 0 0 0 k (by omega) hk (by omega) (by omega) (by omega) (by omega) (by simp [tot])
end Go.Proofs.Ytalnlphinlfenaa.XSum
end

section
namespace Go.Proofs.Ytalnlphinlfenaa.XValue
set_option linter.unusedVariables false
set_option linter.unusedSimpArgs false
open Go.RowKit Go.Proofs.Ytalnlphinlfenaa.S Go.Proofs.Ytalnlphinlfenaa.XNum Go.Proofs.Ytalnlphinlfenaa.XBits Go.Proofs.Ytalnlphinlfenaa.XWide Go.Proofs.Ytalnlphinlfenaa.Rnd Go.Proofs.Ytalnlphinlfenaa.XMdiv Go.Proofs.Ytalnlphinlfenaa.XRate Go.Proofs.Ytalnlphinlfenaa.XSum Go.Proofs.YtalnlphinlfenaaW.PrintWords

/-- may an amount be? -/
def mayM (x : Int) : Prop := -10000000000000 ≤ x ∧ x ≤ 10000000000000
instance (x : Int) : Decidable (mayM x) := inferInstanceAs (Decidable (_ ∧ _))
theorem no_f (x : Int) : value_times_1.f x = some (!decide (mayM x)) := by
  unfold value_times_1.f
  rw [XMoney.may]
  rfl
theorem index {l : List Int} (hn : l.length ≤ 1000000) : ∀ (d i k : Nat), i + d = l.length → d + 1 ≤ k →
    ∃ j, slices_IndexFunc_int64_int64__value_times_1.l0 k l (l.length : Int) (i : Int) = some j ∧ (0 ≤ j ↔ ¬ ∀ x ∈ l.drop i, mayM x) := by
  intro d
  induction d with
  | zero =>
    intro i k h hk
    obtain ⟨k, rfl⟩ : ∃ k', k = k' + 1 := ⟨k - 1, by omega⟩
    refine ⟨-1, ?_, ?_⟩
    · unfold slices_IndexFunc_int64_int64__value_times_1.l0
      rw [if_neg (by omega)]
    · rw [List.drop_eq_nil_of_le (by omega)]
      simp
  | succ d ih =>
    intro i k h hk
    obtain ⟨k, rfl⟩ : ∃ k', k = k' + 1 := ⟨k - 1, by omega⟩
    have hi : i < l.length := by omega
    unfold slices_IndexFunc_int64_int64__value_times_1.l0
    rw [if_pos (by omega), if_pos (by omega), if_pos (by omega), no_f, Option.bind_some, rd_lt hi, List.drop_eq_getElem_cons hi]
    by_cases c : mayM l[i]
    · rw [decide_eq_true c, if_neg (by simp), w64 (by omega) (by omega)]
      obtain ⟨j, h1, h2⟩ := ih (i + 1) k (by omega) (by omega)
      refine ⟨j, by rw [← h1]; rfl, ?_⟩
      rw [h2, List.forall_mem_cons]
      exact ⟨fun h g => h g.2, fun h g => h ⟨c, g⟩⟩
    · rw [decide_eq_false c, if_pos (by rfl)]
      exact ⟨_, rfl, fun _ g => c (g _ List.mem_cons_self), fun _ => by omega⟩
theorem contains_f {l : List Int} (hn : l.length ≤ 1000000) {k : Nat} (hk : l.length + 1 ≤ k) : slices_ContainsFunc_int64_int64__value_times_1.f k l = some (!decide (∀ x ∈ l, mayM x)) := by
  unfold slices_ContainsFunc_int64_int64__value_times_1.f slices_IndexFunc_int64_int64__value_times_1.f
  obtain ⟨j, h1, h2⟩ := index hn l.length 0 k (by omega) hk
  rw [show ((0 : Nat) : Int) = 0 from rfl] at h1
  rw [h1, Option.bind_some]
  rw [List.drop_zero] at h2
  by_cases c : ∀ x ∈ l, mayM x
  · rw [decide_eq_true c, decide_eq_false (fun g => (h2.1 g) c)]
    rfl
  · rw [decide_eq_false c, decide_eq_true (h2.2 c)]
    rfl

theorem set_mid (A C : List Int) (y z : Int) : (A ++ y :: C).set A.length z = A ++ z :: C := by simp
theorem rd_mid (A C : List Int) (y : Int) : rd (A ++ y :: C) (A.length : Int) = y := by
  unfold rd
  simp
theorem rev_l0 : ∀ (n : Nat) (A B C : List Int) (k : Nat), B.length ≤ n → A.length + B.length + C.length ≤ 1000000000 → B.length + 1 ≤ k →
    slices_Reverse_int64_int64.l0 k (A ++ B ++ C) (A.length : Int) ((A.length : Int) + B.length - 1) = some (A ++ B.reverse ++ C) := by
  intro n
  induction n with
  | zero =>
    intro A B C k h hl hk
    obtain ⟨k, rfl⟩ : ∃ k', k = k' + 1 := ⟨k - 1, by omega⟩
    obtain rfl : B = [] := List.length_eq_zero_iff.1 (by omega)
    unfold slices_Reverse_int64_int64.l0
    rw [if_neg (by simp only [List.length_nil]; omega)]
    rfl
  | succ n ih =>
    intro A B C k h hl hk
    obtain ⟨k, rfl⟩ : ∃ k', k = k' + 1 := ⟨k - 1, by omega⟩
    cases B with
    | nil =>
      unfold slices_Reverse_int64_int64.l0
      rw [if_neg (by simp only [List.length_nil]; omega)]
      rfl
    | cons p R =>
      rcases List.eq_nil_or_concat R with rfl | ⟨M, q, rfl⟩
      · unfold slices_Reverse_int64_int64.l0
        rw [if_neg (by simp only [List.length_cons, List.length_nil]; omega)]
        rfl
      · rw [List.concat_eq_append] at *
        simp only [List.length_cons, List.length_append, List.length_nil, Nat.zero_add] at h hl hk
        have e1 : A ++ p :: (M ++ [q]) ++ C = A ++ p :: (M ++ q :: C) := by simp
        have e2 : A ++ q :: (M ++ q :: C) = (A ++ q :: M) ++ q :: C := by simp
        have e3 : A ++ p :: (M ++ q :: C) = (A ++ p :: M) ++ q :: C := by simp
        have lp : ((A ++ p :: M).length : Int) = (A.length : Int) + (p :: (M ++ [q])).length - 1 := by simp only [List.length_cons, List.length_append, List.length_nil]; omega
        have lq : (A ++ q :: M).length = ((A.length : Int) + (p :: (M ++ [q])).length - 1).toNat := by simp only [List.length_cons, List.length_append, List.length_nil]; omega
        have la : A.length = ((A.length : Nat) : Int).toNat := by omega
        have len : (A ++ p :: (M ++ q :: C)).length = A.length + (M.length + 2) + C.length := by simp only [List.length_cons, List.length_append]; omega
        have r1 : rd (A ++ p :: (M ++ q :: C)) ((A.length : Int) + (p :: (M ++ [q])).length - 1) = q := by rw [e3, ← lp, rd_mid]
        have lb : (p :: (M ++ [q])).length = M.length + 2 := by simp only [List.length_cons, List.length_append, List.length_nil]
        rw [e1]
        unfold slices_Reverse_int64_int64.l0
        rw [if_pos (by rw [lb]; omega), if_pos (by rw [lb]; omega), if_pos (by rw [len, lb]; omega), if_pos (by omega), if_pos (by rw [len]; omega), r1, rd_mid]
        rw [← la, set_mid, e2, ← lq, set_mid]
        have e4 : (A ++ q :: M) ++ p :: C = (A ++ [q]) ++ M ++ (p :: C) := by simp
        have g := ih (A ++ [q]) M (p :: C) k (by omega) (by simp only [List.length_cons, List.length_append, List.length_nil]; omega) (by omega)
        rw [w64 (by omega) (by omega), w64 (by rw [lb]; omega) (by rw [lb]; omega), e4]
        have g1 : (((A ++ [q]).length : Nat) : Int) = (A.length : Int) + 1 := by simp only [List.length_cons, List.length_append, List.length_nil]; omega
        rw [g1] at g
        rw [show (A.length : Int) + (p :: (M ++ [q])).length - 1 - 1 = (A.length : Int) + 1 + M.length - 1 by rw [lb]; omega, g]
        simp
theorem reverse_f {l : List Int} (hn : l.length ≤ 1000000) {k : Nat} (hk : l.length + 1 ≤ k) : slices_Reverse_int64_int64.f k l = some l.reverse := by
  unfold slices_Reverse_int64_int64.f
  rw [w64 (by omega) (by omega)]
  have h := rev_l0 l.length [] l [] k (Nat.le_refl _) (by simp; omega) hk
  simp only [List.nil_append, List.append_nil, List.length_nil] at h
  rw [show ((0 : Nat) : Int) + (l.length : Int) - 1 = (l.length : Int) - 1 by omega] at h
  exact h

/-- what amounts are worth now, and the first error -/
def wv (r : Int) : List Int → Int × Int
  | [] => (0, 0)
  | x :: l => ((value_fold.stepv 1 r x (wv r l).1).1, if (wv r l).2 = 0 then (value_fold.stepv 1 r x (wv r l).1).2 else (wv r l).2)
/-- .. at each time -/
def wl (r : Int) : List Int → List Int
  | [] => [0]
  | x :: l => (wv r (x :: l)).1 :: wl r l
theorem wl_head (r : Int) (l : List Int) : ∃ t, wl r l = (wv r l).1 :: t := by
  cases l with
  | nil => exact ⟨[], rfl⟩
  | cons x l => exact ⟨wl r l, rfl⟩
theorem wl_length (r : Int) (l : List Int) : (wl r l).length = l.length + 1 := by
  induction l with
  | nil => rfl
  | cons x l ih => rw [wl, List.length_cons, ih, List.length_cons]
theorem wl_at (r : Int) : ∀ (l : List Int) (i : Nat), i ≤ l.length → rd (wl r l) (i : Int) = (wv r (l.drop i)).1 := by
  intro l
  induction l with
  | nil =>
    intro i h
    obtain rfl : i = 0 := by simpa using h
    rfl
  | cons x l ih =>
    intro i h
    cases i with
    | zero => rfl
    | succ i =>
      have g := ih i (by rw [List.length_cons] at h; omega)
      rw [List.drop_succ_cons, ← g, wl]
      unfold rd
      rw [Int.toNat_natCast, Int.toNat_natCast, List.getD_eq_getElem?_getD, List.getD_eq_getElem?_getD, List.getElem?_cons_succ]
theorem last_rev (y : Int) (t : List Int) : value_fold.last ((y :: t).reverse) = y := by
  unfold value_fold.last rd
  rw [List.length_reverse, List.length_cons, show (((t.length + 1 : Nat) : Int) - 1).toNat = t.length by omega, List.reverse_cons, List.getD_eq_getElem?_getD, List.getElem?_append_right (by rw [List.length_reverse]; omega)]
  simp
theorem runs_wl (r : Int) (l : List Int) : value_fold.runs 1 r 0 l.reverse = ((wl r l).reverse, (wv r l).2) := by
  induction l with
  | nil => rfl
  | cons x l ih =>
    rw [List.reverse_cons, value_fold.runs_snoc, ih]
    unfold value_fold.next
    obtain ⟨t, ht⟩ := wl_head r l
    have e : value_fold.last (wl r l).reverse = (wv r l).1 := by rw [ht, last_rev]
    rw [e, wl, List.reverse_cons]
    rfl

/-- what they may come to -/
def all (r : Int) (l : List Int) : List Int × Int :=
  if l.length ≤ 600 then (if ∀ x ∈ l, mayM x then (if mayR r then (if (wv r l).2 = 0 then (wl r l, 0) else ([], (wv r l).2)) else ([], 2)) else ([], 2)) else ([], 10)
def of (r : Int) (l : List Int) : Int × Int :=
  if l.length ≤ 600 then (if ∀ x ∈ l, mayM x then (if mayR r then (if (wv r l).2 = 0 then ((wv r l).1, 0) else (0, (wv r l).2)) else (0, 2)) else (0, 2)) else (0, 10)
theorem times_f {l : List Int} {r : Int} {k : Nat} (hk : 700 ≤ k) : value_times.f k l r 1 = some (all r l) := by
  unfold value_times.f all
  by_cases c : l.length ≤ 600
  · rw [if_neg (by omega), if_pos c, contains_f (by omega) (by omega), Option.bind_some]
    by_cases m : ∀ x ∈ l, mayM x
    · rw [decide_eq_true m, if_neg (by simp), if_pos m, may, Option.bind_some]
      by_cases h : mayR r
      · rw [decide_eq_true h, if_pos rfl, if_pos h]
        unfold value_fold_int64_int64__value_times_2.f
        rw [if_pos ⟨by omega, ⟨by omega, by omega⟩, by omega⟩]
        unfold value_fold.all
        rw [runs_wl]
        dsimp only
        by_cases e : (wv r l).2 = 0
        · rw [if_pos e, if_pos e, reverse_f (by rw [List.length_reverse, wl_length]; omega) (by rw [List.length_reverse, wl_length]; omega), List.reverse_reverse]
          rfl
        · rw [if_neg e, if_neg e]
          rfl
      · rw [decide_eq_false h, if_neg (by simp), if_neg h]
    · rw [decide_eq_false m, if_pos (by rfl), if_neg m]
  · rw [if_pos (by omega), if_neg c]
theorem all_f {l : List Int} {r : Int} {k : Nat} (hk : 700 ≤ k) : value_All.f k l r = some (all r l) := by
  unfold value_All.f
  rw [times_f hk]
  rfl
theorem of_f {l : List Int} {r : Int} {k : Nat} (hk : 700 ≤ k) : value_Of.f k l r = some (of r l) := by
  unfold value_Of.f value_now.f
  rw [times_f hk, Option.bind_some]
  unfold all of
  by_cases c : l.length ≤ 600
  · rw [if_pos c, if_pos c]
    by_cases m : ∀ x ∈ l, mayM x
    · rw [if_pos m, if_pos m]
      by_cases h : mayR r
      · rw [if_pos h, if_pos h]
        by_cases e : (wv r l).2 = 0
        · rw [if_pos e, if_pos e, if_pos rfl, if_pos (by dsimp only; rw [wl_length]; omega)]
          have g := wl_at r l 0 (by omega)
          rw [List.drop_zero] at g
          rw [show ((0 : Nat) : Int) = 0 from rfl] at g
          dsimp only
          rw [g]
          rfl
        · rw [if_neg e, if_neg e]
          dsimp only
          rw [if_neg e]
          rfl
      · rw [if_neg h, if_neg h]
        rfl
    · rw [if_neg m, if_neg m]
      rfl
  · rw [if_neg c, if_neg c]
    rfl

/-- a step -/
def disc (r s : Int) : Int := near (s * 1000000000000) (1000000000000 + r)
abbrev Big (n : Int) : Prop := -4611686018427387904 ≤ n ∧ n ≤ 4611686018427387904
theorem step {r x b : Int} (hr : mayR r) (hx : mayM x) (hb : Big b) : (Big (disc r (x + b)) → value_fold.stepv 1 r x b = (disc r (x + b), 0)) ∧ (¬ Big (disc r (x + b)) → (value_fold.stepv 1 r x b).2 = 3) := by
  unfold mayM at hx
  unfold value_fold.stepv
  rw [Int.mul_one, w64 (by omega) (by omega), XMoney.told_in (by omega) (by omega)]
  dsimp only
  rw [if_pos rfl]
  have hd : discount (x + b) r = if I64 (disc r (x + b)) then (disc r (x + b), 0) else (0, 3) := by
    unfold discount disc
    rw [if_pos hr, mdiv_n (by unfold mayR at hr; omega)]
  rw [hd]
  generalize disc r (x + b) = v at *
  constructor
  · intro h
    rw [if_pos (show I64 v from ⟨by omega, by omega⟩)]
    dsimp only
    rw [if_pos rfl, if_neg (by omega), if_neg (by omega)]
  · intro h
    by_cases c : I64 v
    · rw [if_pos c]
      dsimp only
      rw [if_pos rfl]
      by_cases d : v > 4611686018427387904
      · rw [if_pos d]
      · rw [if_neg d, if_pos (by omega)]
    · rw [if_neg c]
      rfl
theorem wv_cons {r x : Int} {l : List Int} (hr : mayR r) (hx : mayM x) (h0 : (wv r l).2 = 0) (hb : Big (wv r l).1) : (Big (disc r (x + (wv r l).1)) → wv r (x :: l) = (disc r (x + (wv r l).1), 0)) ∧ (¬ Big (disc r (x + (wv r l).1)) → (wv r (x :: l)).2 = 3) := by
  obtain ⟨h1, h2⟩ := step hr hx hb
  have e : wv r (x :: l) = ((value_fold.stepv 1 r x (wv r l).1).1, if (wv r l).2 = 0 then (value_fold.stepv 1 r x (wv r l).1).2 else (wv r l).2) := rfl
  rw [e, if_pos h0]
  constructor
  · intro h
    rw [h1 h]
  · intro h
    exact h2 h
/-- whether it goes well, and what it then is -/
theorem wv_ok {r : Int} (hr : mayR r) : ∀ {l : List Int}, (∀ x ∈ l, mayM x) → ((wv r l).2 = 0 → Big (wv r l).1) ∧ ((wv r l).2 = 0 ∨ (wv r l).2 = 3) := by
  intro l
  induction l with
  | nil => intro _; exact ⟨fun _ => ⟨by show (-4611686018427387904 : Int) ≤ 0; omega, by show (0 : Int) ≤ 4611686018427387904; omega⟩, .inl rfl⟩
  | cons x l ih =>
    intro hm
    obtain ⟨h1, h2⟩ := ih fun y hy => hm y (List.mem_cons_of_mem _ hy)
    by_cases h0 : (wv r l).2 = 0
    · obtain ⟨g1, g2⟩ := wv_cons hr (hm x List.mem_cons_self) h0 (h1 h0)
      by_cases c : Big (disc r (x + (wv r l).1))
      · rw [g1 c]
        exact ⟨fun _ => c, .inl rfl⟩
      · have := g2 c
        exact ⟨fun e => by rw [this] at e; exact absurd e (by decide), .inr this⟩
    · have e : (wv r (x :: l)).2 = (wv r l).2 := by
        show (if (wv r l).2 = 0 then _ else _) = _
        rw [if_neg h0]
      rw [e]
      exact ⟨fun g => absurd g h0, h2⟩
theorem of_ok {r : Int} {l : List Int} (hl : l.length ≤ 600) (hm : ∀ x ∈ l, mayM x) (hr : mayR r) : of r l = if (wv r l).2 = 0 then ((wv r l).1, 0) else (0, 3) := by
  unfold of
  rw [if_pos hl, if_pos hm, if_pos hr]
  by_cases c : (wv r l).2 = 0
  · rw [if_pos c, if_pos c]
  · rw [if_neg c, if_neg c, (wv_ok hr hm).2.resolve_left c]
end Go.Proofs.Ytalnlphinlfenaa.XValue
end

section
namespace Go.Proofs.Ytalnlphinlfenaa.ValueAlive
set_option linter.unusedVariables false
set_option linter.unusedSimpArgs false
open Go.RowKit Go.Proofs.Ytalnlphinlfenaa.S Go.Proofs.Ytalnlphinlfenaa.XNum Go.Proofs.Ytalnlphinlfenaa.XWide Go.Proofs.Ytalnlphinlfenaa.Rnd Go.Proofs.Ytalnlphinlfenaa.XMdiv Go.Proofs.Ytalnlphinlfenaa.XRate Go.Proofs.Ytalnlphinlfenaa.XValue Go.Proofs.YtalnlphinlfenaaW.PrintWords

theorem alive {k : Nat} (hk : 700 ≤ k) : lombardlaw09_alive.f k = some true := by
  have e1 : of 50000000000 [105] = (100, 0) := by decide +kernel
  have e2 : all 100000000000 [10, 110] = ([100, 100, 0], 0) := by decide +kernel
  unfold lombardlaw09_alive.f
  rw [of_f hk, all_f hk, e1, e2]
  obtain ⟨k, rfl⟩ : ∃ k', k = k' + 4 := ⟨k - 4, by omega⟩
  have s : lombardref01_Same.f (k + 4) [100, 100, 0] [100, 100, 0] = some true := by kernel_rfl
  rw [Option.bind_some, Option.bind_some]
  dsimp only
  rw [if_pos rfl, if_pos rfl, if_pos rfl, s]
  rfl
end Go.Proofs.Ytalnlphinlfenaa.ValueAlive
end

section
namespace Go.Proofs.Ytalnlphinlfenaa.Pure
set_option linter.unusedVariables false
set_option linter.unusedSimpArgs false
open Go.RowKit Go.Proofs.Ytalnlphinlfenaa.S Go.Proofs.Ytalnlphinlfenaa.XNum Go.Proofs.Ytalnlphinlfenaa.XBits Go.Proofs.Ytalnlphinlfenaa.XWide Go.Proofs.Ytalnlphinlfenaa.Rnd Go.Proofs.Ytalnlphinlfenaa.XMdiv Go.Proofs.Ytalnlphinlfenaa.XRate Go.Proofs.Ytalnlphinlfenaa.XSum Go.Proofs.Ytalnlphinlfenaa.XValue Go.Proofs.YtalnlphinlfenaaW.PrintWords Go.Proofs.YtalnlphinlfenaaW.PrintLast Go.Proofs.YtalnlphinlfenaaW.PrintMore

theorem disc_zero {r : Int} (hr : mayR r) : disc r 0 = 0 := by
  unfold disc
  unfold mayR at hr
  have h := near_exact (b := 1000000000000 + r) (N := 0) (by omega)
  rw [Int.mul_zero] at h
  rw [Int.zero_mul]
  exact h
theorem wv_zeros {r : Int} (hr : mayR r) (n : Nat) : wv r (List.replicate n 0) = (0, 0) := by
  induction n with
  | zero => rfl
  | succ n ih =>
    rw [List.replicate_succ]
    have h := (wv_cons (r := r) (x := 0) (l := List.replicate n 0) hr ⟨by omega, by omega⟩ (by rw [ih]) (by rw [ih]; exact ⟨by show (-4611686018427387904 : Int) ≤ 0; omega, by show (0 : Int) ≤ 4611686018427387904; omega⟩)).1
    rw [ih] at h
    rw [show (0 : Int) + ((0, 0) : Int × Int).1 = 0 from rfl, disc_zero hr] at h
    exact h ⟨by omega, by omega⟩
theorem wv_tail_zero {r : Int} {z : List Int} (hz : wv r z = (0, 0)) : ∀ l : List Int, wv r (l ++ z) = wv r l := by
  intro l
  induction l with
  | nil => rw [List.nil_append, hz]; rfl
  | cons x l ih =>
    show ((value_fold.stepv 1 r x (wv r (l ++ z)).1).1, if (wv r (l ++ z)).2 = 0 then (value_fold.stepv 1 r x (wv r (l ++ z)).1).2 else (wv r (l ++ z)).2) = _
    rw [ih]
    rfl
theorem of_zeros {r : Int} {l : List Int} {n : Nat} (hl : l.length ≤ 60) (hn : n ≤ 60) : of r (l ++ List.replicate n 0) = of r l := by
  unfold of
  have l1 : (l ++ List.replicate n (0 : Int)).length ≤ 600 := by rw [List.length_append, List.length_replicate]; omega
  have l2 : l.length ≤ 600 := by omega
  rw [if_pos l1, if_pos l2]
  have hm : (∀ x ∈ l ++ List.replicate n 0, mayM x) ↔ ∀ x ∈ l, mayM x := ⟨fun h x hx => h x (List.mem_append_left _ hx), fun h x hx => by
    rcases List.mem_append.1 hx with g | g
    · exact h x g
    · rw [(List.mem_replicate.1 g).2]
      exact ⟨by omega, by omega⟩⟩
  by_cases m : ∀ x ∈ l, mayM x
  · rw [if_pos m, if_pos (hm.2 m)]
    by_cases h : mayR r
    · rw [if_pos h, if_pos h, wv_tail_zero (wv_zeros h n)]
    · rw [if_neg h, if_neg h]
  · rw [if_neg m, if_neg (fun g => m (hm.1 g))]
theorem ends_j1 {r n x : Int} (hn : 0 ≤ n) (hn1 : n ≤ 60) {k : Nat} (hk : 800 ≤ k) : lombardlaw09_ValueEnds.j1 k r n x false = some true := by
  obtain ⟨k, rfl⟩ : ∃ k', k = k' + 1 := ⟨k - 1, by omega⟩
  obtain ⟨m, rfl⟩ := Int.eq_ofNat_of_zero_le hn
  rw [lombardlaw09_ValueEnds.j1, if_neg (by simp), if_pos hn, w64 (n := (m : Int)) (by omega) (by omega), w64 (n := (m : Int) + 1) (by omega) (by omega)]
  have e1 : ((m : Int) + 1).toNat = m + 1 := by omega
  rw [Int.toNat_natCast, if_pos (by omega), Option.bind_some, if_pos (by rw [List.length_replicate]; omega), of_f (by omega), Option.bind_some, if_pos (by omega), e1, if_pos (by omega), Option.bind_some, if_pos (by rw [List.length_replicate]; omega), of_f (by omega), Option.bind_some]
  have e2 : List.replicate (m + 1) (0 : Int) ++ [x] = 0 :: (List.replicate m 0 ++ [x]) := by rw [List.replicate_succ, List.cons_append]
  rw [e2]
  have hlen : (List.replicate m (0 : Int) ++ [x]).length = m + 1 := by rw [List.length_append, List.length_replicate]; rfl
  have hmz : mayM 0 := ⟨by omega, by omega⟩
  have hm : (∀ y ∈ 0 :: (List.replicate m (0 : Int) ++ [x]), mayM y) ↔ ∀ y ∈ List.replicate m (0 : Int) ++ [x], mayM y := by rw [List.forall_mem_cons]; exact ⟨fun h => h.2, fun h => ⟨hmz, h⟩⟩
  generalize List.replicate m (0 : Int) ++ [x] = L at *
  by_cases hL : ∀ y ∈ L, mayM y
  · by_cases h : mayR r
    · rw [of_ok (by omega) hL h, of_ok (by rw [List.length_cons]; omega) (hm.2 hL) h]
      by_cases g : (wv r L).2 = 0
      · rw [if_pos g]
        dsimp only
        rw [if_pos rfl]
        have hb := (wv_ok h hL).1 g
        obtain ⟨c1, c2⟩ := wv_cons h hmz g hb
        rw [Int.zero_add] at c1 c2
        rw [discount_f ⟨by omega, by omega⟩ (by omega), Option.bind_some]
        by_cases c : Big (disc r (wv r L).1)
        · rw [c1 c]
          have hd : discount (wv r L).1 r = (disc r (wv r L).1, 0) := by
            unfold discount
            rw [if_pos h]
            unfold disc at c ⊢
            rw [mdiv_in (by unfold mayR at h; omega) ⟨by omega, by omega⟩]
          rw [hd]
          simp
        · have e3 := c2 c
          rw [if_neg (show ¬(wv r (0 :: L)).2 = 0 by rw [e3]; decide)]
          rfl
      · have g2 : (wv r (0 :: L)).2 = (wv r L).2 := by
          show (if (wv r L).2 = 0 then _ else _) = _
          rw [if_neg g]
        rw [if_neg g, if_neg (show ¬(wv r (0 :: L)).2 = 0 by rw [g2]; exact g)]
        rfl
    · have a1 : of r L = (0, 2) := by unfold of; rw [if_pos (by omega), if_pos hL, if_neg h]
      have a2 : of r (0 :: L) = (0, 2) := by unfold of; rw [if_pos (by rw [List.length_cons]; omega), if_pos (hm.2 hL), if_neg h]
      rw [a1, a2]
      rfl
  · have a1 : of r L = (0, 2) := by unfold of; rw [if_pos (by omega), if_neg hL]
    have a2 : of r (0 :: L) = (0, 2) := by unfold of; rw [if_pos (by rw [List.length_cons]; omega), if_neg (fun g => hL (hm.1 g))]
    rw [a1, a2]
    rfl
theorem ValueEnds : lombardlaw09_ValueEnds.Pure := by
  intro l r n x _ _ hn _
  rw [wfu8] at hn
  refine ⟨1100, ?_⟩
  unfold lombardlaw09_ValueEnds.f
  rw [ValueAlive.alive (by omega), Option.bind_some, if_pos rfl]
  by_cases c : l.length ≤ 60
  · rw [if_neg (by omega)]
    show lombardlaw09_ValueEnds.j0 (1099 + 1) l r n x _ = some true
    by_cases c2 : n ≤ 60
    · rw [decide_eq_false (by omega), lombardlaw09_ValueEnds.j0, if_neg (by simp), of_f (by omega), Option.bind_some, Option.bind_some, if_pos (by rw [List.length_nil]; omega), Option.bind_some, if_pos hn.1, if_pos (by rw [List.nil_append]; omega), List.nil_append, of_f (by omega), Option.bind_some, of_zeros c (by omega), if_pos rfl, show ((of r l).2 != (of r l).2) = false by simp]
      exact ends_j1 hn.1 c2 (by omega)
    · rw [decide_eq_true (by omega), lombardlaw09_ValueEnds.j0, if_pos rfl]
  · rw [if_pos (by omega)]
    show lombardlaw09_ValueEnds.j0 (1099 + 1) l r n x true = some true
    rw [lombardlaw09_ValueEnds.j0, if_pos rfl]

end Go.Proofs.Ytalnlphinlfenaa.Pure
end

section
namespace Go.Proofs.Ytalnlphinlfenaa.XOpen
set_option linter.unusedVariables false
set_option linter.unusedSimpArgs false
open Go.ChangeShapes Go.WideShapes Go.RowKit Go.Proofs.YtalnlphinlfenaaW.PrintWords
section
variable {H : Type} {enc : TypeId × Value → H} {P : Program} {w : World} {base : Nat} {spare : Nat → Bool} {held : Bool}

/-- Whatever reads as data of type t holds a value of the kind d, and it is good. -/
def Opens {α : Type} (enc : TypeId × Value → H) (P : Program) (w : World) (base : Nat) (spare : Nat → Bool) (held : Bool) (t : TypeId) (d : Kd α) (g : α → Prop) : Prop :=
  ∀ fuel cs x, DataW.trod enc P w base spare held fuel t cs = some x → ∃ a, d.K w a cs ∧ g a

theorem opens_int {t : TypeId} {k : IntKind} (ht : P.underlying t = some (.int k)) : Opens enc P w base spare held t (Kd.int k) (fun a => (Lit.int k a).wf = true) := by
  intro fuel cs x h
  obtain ⟨n, rfl, _, hw⟩ := DataW.trod_int ht h
  exact ⟨n, rfl, hw⟩

theorem choose_list {α : Type} (n : Nat) (p : Nat → α → Prop) (h : ∀ i, i < n → ∃ a, p i a) : ∃ l : List α, l.length = n ∧ ∀ i a, l[i]? = some a → p i a := by
  induction n with
  | zero => exact ⟨[], rfl, fun i a hi => by simp at hi⟩
  | succ n ih =>
    obtain ⟨l, hl, hp⟩ := ih (fun i hi => h i (by omega))
    obtain ⟨a, ha⟩ := h n (by omega)
    refine ⟨l ++ [a], by simp [hl], fun i b hi => ?_⟩
    by_cases hin : i < n
    · rw [List.getElem?_append_left (by omega)] at hi
      exact hp i b hi
    · by_cases e : i = n
      · subst e
        rw [List.getElem?_append_right (by omega), hl] at hi
        simp at hi
        subst hi
        exact ha
      · rw [List.getElem?_append_right (by omega), hl, List.getElem?_eq_none (by simp; omega)] at hi
        cases hi

theorem opens_slice {α : Type} {t e : TypeId} {d : Kd α} {g : α → Prop} (ht : P.underlying t = some (.slice e)) (hc : P.cellsOf e = d.sz) (he : Opens enc P w base spare held e d g) :
    Opens enc P w base spare held t (Kd.slice e d) (fun l => l.length ≤ maxLen ∧ ∀ a ∈ l, g a) := by
  intro fuel cs x h
  rcases DataW.trod_slice ht h with ⟨rfl, _⟩ | ⟨a, len, cap, elems, rest, n, _, rfl, _, _, hl, hm, hlen, hel, _⟩
  · exact ⟨[], ⟨none, 0, rfl, Nat.le_refl _, rfl, Nat.zero_le _, fun h0 => absurd h0 (Nat.lt_irrefl 0)⟩, Nat.zero_le _, fun a ha => absurd ha List.not_mem_nil⟩
  · have hp : ∀ i, i < len → ∃ q : α, (∃ c : List Value, c.length = d.sz ∧ d.K w q c ∧ ∀ j u, c[j]? = some u → w.cell? (a.add (i * d.sz + j)) = some u) ∧ g q := by
      intro i hi
      have h1 := hel i hi
      have hi' : i < elems.length := by omega
      rw [List.getElem?_eq_getElem hi', Option.bind_eq_some_iff] at h1
      obtain ⟨c, hcs, hy⟩ := h1
      obtain ⟨q, hk, hg⟩ := he _ _ _ hy
      obtain ⟨_, hcl, hat⟩ := World.cells?_some hcs
      refine ⟨q, ⟨c, hcl.trans hc, hk, fun j u hu => ?_⟩, hg⟩
      have hj : j < P.cellsOf e := by
        have := (List.getElem?_eq_some_iff.1 hu).1
        omega
      have h2 := hat j hj
      rw [hu, hc] at h2
      have h3 : (a.add (i * d.sz)).add j = a.add (i * d.sz + j) := by
        exact Go.Deep.add_add a (i * d.sz) j
      rw [h3] at h2
      exact h2
    obtain ⟨l, hll, hall⟩ := choose_list len _ hp
    subst hll
    refine ⟨l, ⟨some a, cap, rfl, hl, ?_⟩, Nat.le_trans hl hm, fun q hq => ?_⟩
    · refine ⟨rfl, ?_, fun _ => ⟨a, rfl, fun j p hj => (hall j p hj).1⟩⟩
      have := Nat.le_trans hl hm
      unfold maxLen at this
      exact this
    · obtain ⟨i, hi⟩ := List.getElem?_of_mem hq
      exact (hall i q hi).2

/-- A field: its cells are those that stand at its place. -/
theorem field_of {α : Type} {t : TypeId} {fs : Array Field} {d : Kd α} {g : α → Prop} {fuel : Nat} {cs : List Value} {x : DataW H × List MemPlace} (ht : P.underlying t = some (.struct fs)) (h : DataW.trod enc P w base spare held fuel t cs = some x)
    (i : Nat) (f : Field) (hf : fs[i]? = some f) (ho : Opens enc P w base spare held f.type d g) (off sz : Nat) (h0 : f.offset = off) (h1 : P.cellsOf f.type = sz) : ∃ a, d.K w a ((cs.drop off).take sz) ∧ g a := by
  subst h0 h1
  obtain ⟨xs, n, _, _, _, hl, hat⟩ := DataW.trod_struct ht h
  have hi : i < xs.length := by
    rw [hl]
    exact (Array.getElem?_eq_some_iff.1 hf).1
  have h2 := hat i f hf
  rw [List.getElem?_eq_getElem hi] at h2
  exact ho _ _ _ h2

theorem cells_len {t : TypeId} {fs : Array Field} {fuel : Nat} {cs : List Value} {x : DataW H × List MemPlace} (ht : P.underlying t = some (.struct fs)) (h : DataW.trod enc P w base spare held fuel t cs = some x) : cs.length = P.cellsOf t := by
  obtain ⟨xs, n, _, _, hl, _⟩ := DataW.trod_struct ht h
  exact hl

theorem K_pair {α β : Type} {a : Kd α} {b : Kd β} {x : α} {y : β} {cs : List Value} (n : Nat) (h0 : a.K w x (cs.take n)) (h1 : b.K w y (cs.drop n)) : (Kd.pair a b).K w (x, y) cs :=
  ⟨cs.take n, cs.drop n, (List.take_append_drop n cs).symm, h0, h1⟩

theorem drop_drop' (cs : List Value) (m n : Nat) : (cs.drop m).drop n = cs.drop (m + n) := List.drop_drop

theorem K_pair' {α β : Type} {a : Kd α} {b : Kd β} {x : α} {y : β} {cs : List Value} (off n : Nat) (h0 : a.K w x ((cs.drop off).take n)) (h1 : b.K w y (cs.drop (off + n))) : (Kd.pair a b).K w (x, y) (cs.drop off) :=
  K_pair n h0 (by rw [drop_drop']; exact h1)

theorem K_last {α : Type} {a : Kd α} {x : α} {cs : List Value} (off n : Nat) (h0 : a.K w x ((cs.drop off).take n)) (hl : cs.length ≤ off + n) : a.K w x (cs.drop off) := by
  rw [List.take_of_length_le (by rw [List.length_drop]; omega)] at h0
  exact h0

theorem K_all {α : Type} {a : Kd α} {x : α} {cs : List Value} (h0 : a.K w x (cs.drop 0)) : a.K w x cs := h0

theorem okWide_agg {r : Reach} {t : TypeId} {fs : Array Field} {v : Value} (ht : P.underlying t = some (.struct fs)) (h : Value.okWide P w r base t v) : ∃ cs, v = .agg cs := by
  obtain ⟨cs, h, _⟩ := okWide_struct ht h
  exact ⟨cs, h⟩

theorem agg_of {cs : Array Value} {l : List Value} (h : (Value.agg cs).cells.toList = l) : cs = l.toArray := by
  subst h
  simp [Value.cells]

end
end Go.Proofs.Ytalnlphinlfenaa.XOpen
end

section
namespace Go.Proofs.Ytalnlphinlfenaa.valueEnds
open Go.ChangeShapes Go.WideShapes Go.ChangeAt Go.RowKit Go.Proofs.Ytalnlphinlfenaa.S Go.Proofs.YtalnlphinlfenaaW.PrintWords Go.Proofs.Ytalnlphinlfenaa.XOpen
open Go.ChangeMaps (open_string shut_string)
set_option linter.unusedVariables false
theorem own : ownKnob Try.prog.godebug = none := by kernel_rfl
theorem laidOut : laidOutB Try.prog = true := by kernel_rfl
theorem opens_S47 {H : Type} {enc : TypeId × Value → H} {w : World} {base : Nat} {spare : Nat → Bool} {held : Bool} : Opens enc Try.prog w base spare held 47 k47 (fun a => ((a.f0.length ≤ maxLen ∧ ∀ y_ ∈ a.f0, (Lit.int .i64 y_).wf = true) ∧ (Lit.int .i64 a.f1).wf = true ∧ (Lit.int .u8 a.f2).wf = true ∧ (Lit.int .i64 a.f3).wf = true)) := by
  intro fuel cs x h
  have hl : cs.length = 4 := (cells_len Try.underlying47 h).trans (by kernel_rfl)
  obtain ⟨a0, h0, g0⟩ := field_of Try.underlying47 h 0 _ rfl (opens_slice Try.underlying22 (by kernel_rfl) (opens_int Try.underlying2)) 0 1 rfl (by kernel_rfl)
  obtain ⟨a1, h1, g1⟩ := field_of Try.underlying47 h 1 _ rfl (opens_int Try.underlying2) 1 1 rfl (by kernel_rfl)
  obtain ⟨a2, h2, g2⟩ := field_of Try.underlying47 h 2 _ rfl (opens_int Try.underlying5) 2 1 rfl (by kernel_rfl)
  obtain ⟨a3, h3, g3⟩ := field_of Try.underlying47 h 3 _ rfl (opens_int Try.underlying2) 3 1 rfl (by kernel_rfl)
  refine ⟨⟨a0, a1, a2, a3⟩, ?_, ⟨g0, g1, g2, g3⟩⟩
  exact K_all (K_pair' 0 1 h0 (K_pair' 1 1 h1 (K_pair' 2 1 h2 (K_last 3 1 h3 (by omega)))))
set_option maxRecDepth 100000 in
theorem lifted (os : Os) (started : os.Started) (H : Type) (enc : TypeId × Value → H) :
    ReturnsInHanded {} Try.checked os 7 .any (Rows.valueEndsSpec.pre6 enc Try.prog Try.f7 Rows.valueEndsRow.domain false) (Rows.valueEndsSpec.post enc Try.prog Try.f7 false true false false) := by
  refine returnsInHanded_of_change_sized (C := Try.checked) own started (by kernel_rfl) Try.func7
    (ChangeSpec.witness6 (enc := enc) (C := Try.checked) false ⟨#[], #[.agg #[.slice none 0 0, .int .i64 0, .int .u8 0, .int .i64 0]], []⟩ 8 (by kernel_rfl) (by kernel_rfl) (by kernel_rfl) (by kernel_rfl)) ?_
  intro W base args ds gs before hval0 hW hcnd hsz0 _
  have hval : ∀ (j : Nat) t v, Try.f7.params[j]? = some t → args[j]? = some v → Value.okWide Try.prog W .any base t v := hval0
  have hW' := hW
  obtain ⟨p, q, hA0, hV, rfl, hfz, hnd⟩ := hW
  have hA : DataW.TrodAll enc Try.prog W 0 (fun _ => true) true Try.f7.params.toList args.toList ds p := hA0
  rw [Try.params7] at hA hval
  obtain ⟨v0, vs0, d0, ds0, p0, q0, hargs, rfl, rfl, h0, r0⟩ := trodAll_cons hA
  obtain ⟨rfl, rfl, rfl⟩ := trodAll_nil r0
  obtain rfl : args = #[v0] := by cases args; simp_all
  obtain ⟨rfl, rfl⟩ := trodVars_none hV
  clear hA0 hsz0
  have k0 := h0
  have lt0 : ∀ x ∈ p0, x.block < W.heap.size := by obtain ⟨m, hm⟩ := k0; exact DataW.trod_lt m _ _ _ hm
  obtain ⟨u0, hf0⟩ := h0
  obtain ⟨s0, hk0, hg0⟩ := opens_S47 _ _ _ hf0
  obtain ⟨A0_0, c0_0, he0, hc0_0, hr0_0⟩ := k47_open hk0
  obtain ⟨b0, rfl⟩ := okWide_agg Try.underlying47 (hval 0 47 v0 rfl rfl)
  obtain rfl := agg_of he0
  refine (S.lombardlaw09_ValueEnds.walk Pure.ValueEnds _ _ s0.f0 s0.f1 s0.f2 s0.f3 W hr0_0 hc0_0 hg0.1 hg0.2.1 hg0.2.2.1 hg0.2.2.2).mono fun e W' ⟨he, bel⟩ => ?_
  subst he
  exact ⟨_, rfl, _, _, _, [], _, [], hW', trodAll_mk1 (shut_bool Try.underlying4 _), (trodAll_cons_mk (Below.trod laidOut (by kernel_rfl) (of_decide_eq_true (by kernel_rfl)) k0 bel lt0) trodAll_mk0), rfl, bel.frame _, fun h => by cases h⟩
theorem over : Rows.valueEndsRow.holds Try.pinned (OpenSpec.ofChange Rows.valueEndsSpec) :=
  OpenClaim.holds_of_wide 7 Try.f7 rfl rfl rfl rfl rfl rfl rfl ⟨rfl, rfl, rfl, rfl, rfl⟩ rfl rfl rfl rfl rfl (by kernel_rfl) Try.func7 (by kernel_rfl)
    (of_decide_eq_true (by kernel_rfl)) (by unfold Func.isWrapper; first | (rw [if_pos (by decide +kernel)]; kernel_rfl) | (rw [if_neg (by decide +kernel)]; exact ⟨rfl, rfl⟩))
    (fun os started H enc _ => lifted os started H enc)
theorem proved : Rows.ValueEndsSaid := over
#print axioms proved
end Go.Proofs.Ytalnlphinlfenaa.valueEnds
namespace Go.Proofs.Ytalnlphinlfenaa
/-- The row, under a short name, for the claim. -/
theorem valueEnds_holds : Rows.ValueEndsSaid := valueEnds.proved
end Go.Proofs.Ytalnlphinlfenaa
end
