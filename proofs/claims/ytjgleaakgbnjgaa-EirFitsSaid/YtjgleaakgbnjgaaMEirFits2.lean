/- Texts of the statement EirFitsSaid, laid together. Conditions: none beyond those that each theorem names. -/
import Derived.Test.YtjgleaakgbnjgaaSx0
import Derived.Test.YtjgleaakgbnjgaaMEirFits3
import Derived.Test.YtjgleaakgbnjgaaSxRateMay
import Derived.Calls
import Derived.StepT
import Derived.Laws.Sem
import GoSem.Dispatch
set_option linter.unusedSimpArgs false
set_option linter.unusedVariables false
section
namespace Go.Proofs.Ytjgleaakgbnjgaa.S
open Go.RowKit Go.Proofs.YtjgleaakgbnjgaaW.PrintWords Go.Proofs.YtjgleaakgbnjgaaW.PrintLast Go.Proofs.YtjgleaakgbnjgaaW.PrintMore
attribute [local go_sem] max2_int min2_int max_two min_two max_three min_three max_four min_four
attribute [local go_sem] XWalk.cell2
def value_times_1.f (a0 : Int) : Option (Bool) := (money_May.f a0).bind fun t102 => (some (!t102))
set_option maxHeartbeats 8000000 in
set_option maxRecDepth 100000 in
theorem value_times_1.calls (a0 : Int) (r : Bool) (w : World) (h : value_times_1.f a0 = some r) :
  Calls Star.prog 58 #[.int .i64 a0] w fun e w' => e = .returned (.bool r) ∧ Drawn0 w w' := by
 have H : ((money_May.f a0).bind fun t102 => (some (!t102))) = some r := h
 clear h
 replace H := Option.bind_eq_some_iff.mp H
 obtain ⟨t102, A20, H⟩ := H
 replace H : (some (!t102)) = some r := H
 have A2 := Aside0.mk A20
 clear A20
 obtain rfl := Option.some.inj H
 go_enter Star.func58, Try.ntmps58
 go_wp2_with (first | ((with_reducible refine gate_callee (f := 59) rfl ?_); refine goesL_ (some 4) rfl rfl Star.func59 (by kernel_rfl) rfl #[.int .i64 a0] rfl (by (try simp only [List.map_toArray, List.map_cons, List.map_nil]); first | done | rfl | (simp only [List.length_drop, List.length_take]; rfl)) ?_; (with_reducible refine (money_May.calls a0 t102 _ A2.out).mono ?_); rintro e w' ⟨rfl, ⟨nd, rfl⟩⟩; refine ⟨_, rfl, ?_⟩))
 go_ret
 exact ⟨by first | rfl | (simp; done) | (simp [*]; done), by repeat (first | exact Drawn0.refl _ | apply Drawn0.step)⟩
end Go.Proofs.Ytjgleaakgbnjgaa.S
end

section
namespace Go.Proofs.Ytjgleaakgbnjgaa.S
open Go.RowKit Go.Proofs.YtjgleaakgbnjgaaW.PrintWords Go.Proofs.YtjgleaakgbnjgaaW.PrintLast Go.Proofs.YtjgleaakgbnjgaaW.PrintMore
attribute [local go_sem] max2_int min2_int max_two min_two max_three min_three max_four min_four
attribute [local go_sem] XWalk.cell2
def slices_IndexFunc_int64_int64__value_times_1.l0 : Nat → List Int → Int → Int → Option (Int)
 | 0, _, _, _ => none
 | k + 1, x0, x7, x8 => if x8 < x7 then (if 0 ≤ x8 then (if x8 < (x0.length : Int) then ((value_times_1.f (rd x0 x8)).bind fun t150 => (if t150 = true then (some x8) else (slices_IndexFunc_int64_int64__value_times_1.l0 k x0 x7 (wrap64 (x8 + 1))))) else (none)) else (none)) else (some (-1))
def slices_IndexFunc_int64_int64__value_times_1.f (k : Nat) (l0 : List Int)  : Option (Int) := slices_IndexFunc_int64_int64__value_times_1.l0 k l0 (l0.length : Int) 0
set_option maxHeartbeats 8000000 in
set_option maxRecDepth 100000 in
theorem slices_IndexFunc_int64_int64__value_times_1.calls (k : Nat) (A0 : Option Addr) (c0 : Nat) (l0 : List Int)  (r : Int) (w : World) (hr0 : Kd.C (Kd.int .i64) w A0 l0.length l0) (hc0 : l0.length ≤ c0) (h : slices_IndexFunc_int64_int64__value_times_1.f k l0 = some r) :
  Calls Star.prog 78 #[.slice A0 l0.length c0, .func (.func 58) #[] #[]] w fun e w' => e = .returned (.int .i64 r) ∧ Below w.heap.size w w' := by
 have HR0 := Aside0.mk hr0
 have HC0 := Aside0.mk hc0
 clear hr0 hc0
 have HB := Aside0.mk (Below.refl w.heap.size w)
 have H : (slices_IndexFunc_int64_int64__value_times_1.l0 k l0 (l0.length : Int) 0) = some r := h
 clear h
 have H' := Aside0.mk H
 clear H
 go_enter Star.func78, Try.ntmps78
 go_wp2
 go_loopg [8] k (fun kq v8 w' => ∃ (x8_1 : Int), v8 = .int .i64 x8_1 ∧ Aside0 (slices_IndexFunc_int64_int64__value_times_1.l0 kq l0 (l0.length : Int) x8_1 = some r) ∧ Aside0 (kq ≤ k) ∧ Aside0 (Below w.heap.size w w'))
 case atStart => exact ⟨(0), (by first | rfl | (simp; done) | (simp [*]; done)), H', ⟨Nat.le_refl _⟩, ⟨by repeat (first | (with_reducible first | exact HB.out | apply below_alloc | apply pw_below_drewN | apply below_drew1) | exact HB.out)⟩⟩
 case round =>
  clear H'
  try clear p2
  obtain ⟨x8_1, rfl, HA, HK1, HB⟩ := hrel
  cases gk with
  | zero => exact absurd HA.out (by simp [slices_IndexFunc_int64_int64__value_times_1.l0])
  | succ k1 =>
   have H := HA.out
   clear HA
   simp only [slices_IndexFunc_int64_int64__value_times_1.l0] at H
   by_cases c3 : x8_1 < (l0.length : Int)
   ·rw [if_pos c3] at H
    have c3b0 : decide (x8_1 < (l0.length : Int)) = true := decide_eq_true c3
    clear c3
    by_cases c4 : 0 ≤ x8_1
    ·rw [if_pos c4] at H
     have c4b0 : decide (0 ≤ x8_1) = true := decide_eq_true c4
     clear c4
     by_cases c5 : x8_1 < (l0.length : Int)
     ·rw [if_pos c5] at H
      have c5b0 : decide (x8_1 < (l0.length : Int)) = true := decide_eq_true c5
      clear c5
      replace H := Option.bind_eq_some_iff.mp H
      obtain ⟨t150, A60, H⟩ := H
      replace H : (if t150 = true then (some x8_1) else (slices_IndexFunc_int64_int64__value_times_1.l0 k1 l0 (l0.length : Int) (wrap64 (x8_1 + 1)))) = some r := H
      have A6 := Aside0.mk A60
      clear A60
      by_cases c7 : t150 = true
      ·subst c7
       have H1 : (some x8_1) = some r := by rw [if_pos rfl] at H; exact H
       clear H
       have H := H1
       clear H1
       obtain rfl := Option.some.inj H
       have p149 : 0 ≤ (x8_1 : Int) := of_decide_eq_true (by first | (with_reducible assumption) | assumption)
       have q149 : x8_1 < (l0.length : Int) := of_decide_eq_true (by first | (with_reducible assumption) | assumption)
       obtain ⟨ad149, e149, hx149_0⟩ := Kd.at_int HR0.out x8_1 p149 q149
       cases e149
       try replace hx149_0 := (HB.out.cell (World.block_lt_of_cell? w _ hx149_0)).trans hx149_0
       replace p149 := eq_true p149
       replace q149 := eq_true q149
       go_wp2_with (first | (go_at_call 58; (with_reducible refine (value_times_1.calls (rd l0 x8_1) true _ A6.out).mono ?_); rintro e w' ⟨rfl, ⟨nd, rfl⟩⟩))
       go_ret
       exact ⟨by first | rfl | (simp [errW_none, errW_some] <;> rfl) | (simp [*, errW_none, errW_some] <;> rfl), by repeat (first | (with_reducible first | exact HB.out | apply below_alloc | apply pw_below_drewN | apply below_drew1) | exact HB.out)⟩
      ·replace c7 := Bool.eq_false_iff.mpr c7
       subst c7
       have H1 : (slices_IndexFunc_int64_int64__value_times_1.l0 k1 l0 (l0.length : Int) (wrap64 (x8_1 + 1))) = some r := by rw [if_neg (show ¬ (false = true) by decide)] at H; exact H
       clear H
       have H := H1
       clear H1
       have H' := Aside0.mk H
       clear H
       have p149 : 0 ≤ (x8_1 : Int) := of_decide_eq_true (by first | (with_reducible assumption) | assumption)
       have q149 : x8_1 < (l0.length : Int) := of_decide_eq_true (by first | (with_reducible assumption) | assumption)
       obtain ⟨ad149, e149, hx149_0⟩ := Kd.at_int HR0.out x8_1 p149 q149
       cases e149
       try replace hx149_0 := (HB.out.cell (World.block_lt_of_cell? w _ hx149_0)).trans hx149_0
       replace p149 := eq_true p149
       replace q149 := eq_true q149
       go_wp2_with (first | (go_at_call 58; (with_reducible refine (value_times_1.calls (rd l0 x8_1) false _ A6.out).mono ?_); rintro e w' ⟨rfl, ⟨nd, rfl⟩⟩))
       go_roundg k1
       case measure => have := HK1.out; omega
       case rel => exact ⟨(wrap64 (x8_1 + 1)), (by first | rfl | (simp; done) | (simp [*]; done)), H', ⟨by have := HK1.out; omega⟩, ⟨by repeat (first | (with_reducible first | exact HB.out | apply below_alloc | apply pw_below_drewN | apply below_drew1) | exact HB.out)⟩⟩
     ·rw [if_neg c5] at H
      exact absurd H (by simp)
    ·rw [if_neg c4] at H
     exact absurd H (by simp)
   ·rw [if_neg c3] at H
    have c3b0 : decide (x8_1 < (l0.length : Int)) = false := decide_eq_false c3
    clear c3
    obtain rfl := Option.some.inj H
    go_wp2
    go_ret
    exact ⟨by first | rfl | (simp [errW_none, errW_some] <;> rfl) | (simp [*, errW_none, errW_some] <;> rfl), by repeat (first | (with_reducible first | exact HB.out | apply below_alloc | apply pw_below_drewN | apply below_drew1) | exact HB.out)⟩
end Go.Proofs.Ytjgleaakgbnjgaa.S
end

section
namespace Go.Proofs.Ytjgleaakgbnjgaa.S
open Go.RowKit Go.Proofs.YtjgleaakgbnjgaaW.PrintWords Go.Proofs.YtjgleaakgbnjgaaW.PrintLast Go.Proofs.YtjgleaakgbnjgaaW.PrintMore
attribute [local go_sem] max2_int min2_int max_two min_two max_three min_three max_four min_four
attribute [local go_sem] XWalk.cell2
def slices_ContainsFunc_int64_int64__value_times_1.f (k : Nat) (l0 : List Int)  : Option (Bool) := (slices_IndexFunc_int64_int64__value_times_1.f k l0).bind fun t151 => (some (decide (t151 ≥ 0)))
set_option maxHeartbeats 8000000 in
set_option maxRecDepth 100000 in
theorem slices_ContainsFunc_int64_int64__value_times_1.calls (k : Nat) (A0 : Option Addr) (c0 : Nat) (l0 : List Int)  (r : Bool) (w : World) (hr0 : Kd.C (Kd.int .i64) w A0 l0.length l0) (hc0 : l0.length ≤ c0) (h : slices_ContainsFunc_int64_int64__value_times_1.f k l0 = some r) :
  Calls Star.prog 60 #[.slice A0 l0.length c0, .func (.func 58) #[] #[]] w fun e w' => e = .returned (.bool r) ∧ Below w.heap.size w w' := by
 have HR0 := Aside0.mk hr0
 have HC0 := Aside0.mk hc0
 clear hr0 hc0
 have HB := Aside0.mk (Below.refl w.heap.size w)
 have H : ((slices_IndexFunc_int64_int64__value_times_1.f k l0).bind fun t151 => (some (decide (t151 ≥ 0)))) = some r := h
 clear h
 replace H := Option.bind_eq_some_iff.mp H
 obtain ⟨t151, A30, H⟩ := H
 replace H : (some (decide (t151 ≥ 0))) = some r := H
 have A3 := Aside0.mk A30
 clear A30
 obtain rfl := Option.some.inj H
 go_enter Star.func60, Try.ntmps60
 go_wp2_with (first | ((with_reducible refine gate_callee (f := 78) rfl ?_); refine goesL_ (some 7) rfl rfl Star.func78 (by kernel_rfl) rfl #[.slice A0 l0.length c0, .func (.func 58) #[] #[]] rfl (by (try simp only [List.map_toArray, List.map_cons, List.map_nil]); first | done | rfl | (simp only [List.length_drop, List.length_take]; rfl)) ?_; (with_reducible refine (slices_IndexFunc_int64_int64__value_times_1.calls k _ _ l0  t151 _ ?side1 ?side2 A3.out).mono ?_); (case side1 => repeat (first | exact HR0.out | (with_reducible refine Kd.C_alloc ?_ _) | (with_reducible refine Kd.C_drewN ?_ _) | (with_reducible refine Kd.C_drew ?_))); (case side2 => exact HC0.out); rintro e w4 ⟨rfl, hb⟩; refine ⟨_, rfl, ?_⟩; have n0_ := Aside0.mk (below_step (by repeat (first | (with_reducible first | exact HB.out | apply below_alloc | apply pw_below_drewN | apply below_drew1) | exact HB.out)) hb); clear HB; have HB := n0_; clear n0_; (try clear hb); (try clear hb2); (try clear hk); (try clear hi)))
 go_ret
 exact ⟨by first | rfl | (simp [errW_none, errW_some] <;> rfl) | (simp [*, errW_none, errW_some] <;> rfl), by repeat (first | (with_reducible first | exact HB.out | apply below_alloc | apply pw_below_drewN | apply below_drew1) | exact HB.out)⟩
end Go.Proofs.Ytjgleaakgbnjgaa.S
end

section
namespace Go.Proofs.Ytjgleaakgbnjgaa.S
open Go.RowKit Go.Proofs.YtjgleaakgbnjgaaW.PrintWords Go.Proofs.YtjgleaakgbnjgaaW.PrintLast Go.Proofs.YtjgleaakgbnjgaaW.PrintMore
attribute [local go_sem] max2_int min2_int max_two min_two max_three min_three max_four min_four
attribute [local go_sem] XWalk.cell2
def value_times.f (k : Nat) (l0 : List Int) (a1 : Int) (a2 : Int) : Option (List Int × Int) := if (l0.length : Int) > 600 then (some (([] : List Int), 10)) else ((slices_ContainsFunc_int64_int64__value_times_1.f k l0).bind fun t158 => (if t158 = true then (some (([] : List Int), 2)) else ((rate_May.f a1).bind fun t159 => (if t159 = true then ((value_fold_int64_int64__value_times_2.f k l0 0 a2 a1).bind fun bt160 => (some (bt160.1, bt160.2))) else (some (([] : List Int), 2))))))
set_option maxHeartbeats 8000000 in
set_option maxRecDepth 100000 in
theorem value_times.calls (k : Nat) (A0 : Option Addr) (c0 : Nat) (l0 : List Int) (a1 : Int) (a2 : Int) (r1 : List Int) (r2 : Int) (w : World) (hr0 : Kd.C (Kd.int .i64) w A0 l0.length l0) (hc0 : l0.length ≤ c0) (h : value_times.f k l0 a1 a2 = some (r1, r2)) :
  Calls Star.prog 41 #[.slice A0 l0.length c0, .int .i64 a1, .int .i64 a2] w fun e w' => ∃ v0_ : Value, e = .returned (.tuple #[v0_, .int .i64 r2]) ∧ Kd.R (Kd.int .i64) 2 w' w.heap.size (fun _ => True) v0_ r1 ∧ Below w.heap.size w w' := by
 have HR0 := Aside0.mk hr0
 have HC0 := Aside0.mk hc0
 clear hr0 hc0
 have HB := Aside0.mk (Below.refl w.heap.size w)
 have H : (if (l0.length : Int) > 600 then (some (([] : List Int), 10)) else ((slices_ContainsFunc_int64_int64__value_times_1.f k l0).bind fun t158 => (if t158 = true then (some (([] : List Int), 2)) else ((rate_May.f a1).bind fun t159 => (if t159 = true then ((value_fold_int64_int64__value_times_2.f k l0 0 a2 a1).bind fun bt160 => (some (bt160.1, bt160.2))) else (some (([] : List Int), 2))))))) = some (r1, r2) := h
 clear h
 by_cases c4 : (l0.length : Int) > 600
 ·rw [if_pos c4] at H
  have c4b0 : decide (600 < (l0.length : Int)) = true := decide_eq_true c4
  have c4b1 : decide (600 < l0.length) = true := decide_eq_true (by omega)
  clear c4
  simp only [Option.some.injEq, Prod.mk.injEq] at H
  obtain ⟨rfl, rfl⟩ := H
  go_enter Star.func41, Try.ntmps41
  go_wp2_with (first | ((with_reducible refine gate_dst (N := 4) rfl ?_); refine box_event ?hg (N := 4) ?hd (cs := #[.int .i64 a1]) (t := 2) ?hr ?_; (case hd => rfl); (case hg => rfl); (case hr => first | (go_simp; done) | (go_simp; rfl)); intro gb156 hg w5 hbox hb; have n0_ := Aside0.mk (below_step (by repeat (first | (with_reducible first | exact HB.out | apply below_alloc | apply pw_below_drewN | apply below_drew1) | exact HB.out)) hb); have n1_ := Aside0.mk (hbox); have n2_ := Aside0.mk ((by rw [hg]; exact (below_size (by repeat (first | (with_reducible first | exact HB.out | apply below_alloc | apply pw_below_drewN | apply below_drew1) | exact HB.out))) : w.heap.size ≤ gb156)); have n3_ := Aside0.mk ((by rw [hg]; exact (below_size (by repeat (first | (with_reducible first | exact HB.out | apply below_alloc | apply pw_below_drewN | apply below_drew1) | exact HB.out))) : w.heap.size ≤ gb156)); clear HB; have HB := n0_; have BK156 := n1_; have GW156 := n2_; have GE156 := n3_; clear n0_ n1_ n2_ n3_; clear hb hbox hg) | ((with_reducible refine gate_dst (N := 5) rfl ?_); refine box_event ?hg (N := 5) ?hd (cs := #[.int .i64 a2]) (t := 2) ?hr ?_; (case hd => rfl); (case hg => rfl); (case hr => first | (go_simp; done) | (go_simp; rfl)); intro gb157 hg w6 hbox hb; have n0_ := Aside0.mk (blk_below (g := gb156) (o := .cells #[.int .i64 a1] 2 (0, 0)) (by (with_reducible repeat (first | refine blk_drewN ?_ _ | refine blk_drew ?_ | refine blk_alloc ?_ _)); exact BK156.out) hb); have n1_ := Aside0.mk (below_step (by repeat (first | (with_reducible first | exact HB.out | apply below_alloc | apply pw_below_drewN | apply below_drew1 | refine below_set ?_ GE156.out) | exact HB.out)) hb); have n2_ := Aside0.mk (hbox); have n3_ := Aside0.mk ((by rw [hg]; exact (below_size (by repeat (first | (with_reducible first | exact HB.out | apply below_alloc | apply pw_below_drewN | apply below_drew1 | refine below_set ?_ GE156.out) | exact HB.out))) : w.heap.size ≤ gb157)); have n4_ := Aside0.mk ((by rw [hg]; exact (below_size (by repeat (first | (with_reducible first | exact HB.out | apply below_alloc | apply pw_below_drewN | apply below_drew1 | refine below_set ?_ GE156.out) | exact HB.out))) : w.heap.size ≤ gb157)); have n5_ := Aside0.mk ((by rw [hg]; exact Nat.ne_of_lt (blk_lt (g := gb156) (o := .cells #[.int .i64 a1] 2 (0, 0)) (by (with_reducible repeat (first | refine blk_drewN ?_ _ | refine blk_drew ?_ | refine blk_alloc ?_ _)); exact BK156.out)) : gb156 ≠ gb157)); have n6_ := Aside0.mk ((by rw [hg]; exact Nat.ne_of_gt (blk_lt (g := gb156) (o := .cells #[.int .i64 a1] 2 (0, 0)) (by (with_reducible repeat (first | refine blk_drewN ?_ _ | refine blk_drew ?_ | refine blk_alloc ?_ _)); exact BK156.out)) : gb157 ≠ gb156)); clear BK156; clear HB; have BK156 := n0_; have HB := n1_; have BK157 := n2_; have GW157 := n3_; have GE157 := n4_; have NB156_157 := n5_; have NB157_156 := n6_; clear n0_ n1_ n2_ n3_ n4_ n5_ n6_; clear hb hbox hg))
  go_ret2
  exact ⟨_, by first | rfl | (simp [errW_none, errW_some] <;> rfl) | (simp [*, errW_none, errW_some] <;> rfl), by first | exact Kd.R_nil _ _ _ _ _ | exact Kd.N_nil _ _ _ _ _ | exact Kd.V_nil _ _ _ _ _ | exact Kd.Q_nil _ _ _ _ _ | exact Kd.S_nil _ _ _ _ _, by repeat (first | (with_reducible first | exact HB.out | apply below_alloc | apply pw_below_drewN | apply below_drew1 | refine below_set ?_ GE156.out | refine below_set ?_ GE157.out) | exact HB.out)⟩
 ·rw [if_neg c4] at H
  have c4b0 : decide (600 < (l0.length : Int)) = false := decide_eq_false c4
  have c4b1 : decide (600 < l0.length) = false := decide_eq_false (by omega)
  clear c4
  have HC7 := Aside0.mk H
  clear H
  go_enter Star.func41, Try.ntmps41
  go_upto_region 4 with (first | ((with_reducible refine gate_dst (N := 4) rfl ?_); refine box_event ?hg (N := 4) ?hd (cs := #[.int .i64 a1]) (t := 2) ?hr ?_; (case hd => rfl); (case hg => rfl); (case hr => first | (go_simp; done) | (go_simp; rfl)); intro gb156 hg w8 hbox hb; have n0_ := Aside0.mk (below_step (by repeat (first | (with_reducible first | exact HB.out | apply below_alloc | apply pw_below_drewN | apply below_drew1) | exact HB.out)) hb); have n1_ := Aside0.mk (hbox); have n2_ := Aside0.mk ((by rw [hg]; exact (below_size (by repeat (first | (with_reducible first | exact HB.out | apply below_alloc | apply pw_below_drewN | apply below_drew1) | exact HB.out))) : w.heap.size ≤ gb156)); have n3_ := Aside0.mk ((by rw [hg]; exact (below_size (by repeat (first | (with_reducible first | exact HB.out | apply below_alloc | apply pw_below_drewN | apply below_drew1) | exact HB.out))) : w.heap.size ≤ gb156)); clear HB; have HB := n0_; have BK156 := n1_; have GW156 := n2_; have GE156 := n3_; clear n0_ n1_ n2_ n3_; clear hb hbox hg) | ((with_reducible refine gate_dst (N := 5) rfl ?_); refine box_event ?hg (N := 5) ?hd (cs := #[.int .i64 a2]) (t := 2) ?hr ?_; (case hd => rfl); (case hg => rfl); (case hr => first | (go_simp; done) | (go_simp; rfl)); intro gb157 hg w9 hbox hb; have n0_ := Aside0.mk (blk_below (g := gb156) (o := .cells #[.int .i64 a1] 2 (0, 0)) (by (with_reducible repeat (first | refine blk_drewN ?_ _ | refine blk_drew ?_ | refine blk_alloc ?_ _)); exact BK156.out) hb); have n1_ := Aside0.mk (below_step (by repeat (first | (with_reducible first | exact HB.out | apply below_alloc | apply pw_below_drewN | apply below_drew1 | refine below_set ?_ GE156.out) | exact HB.out)) hb); have n2_ := Aside0.mk (hbox); have n3_ := Aside0.mk ((by rw [hg]; exact (below_size (by repeat (first | (with_reducible first | exact HB.out | apply below_alloc | apply pw_below_drewN | apply below_drew1 | refine below_set ?_ GE156.out) | exact HB.out))) : w.heap.size ≤ gb157)); have n4_ := Aside0.mk ((by rw [hg]; exact (below_size (by repeat (first | (with_reducible first | exact HB.out | apply below_alloc | apply pw_below_drewN | apply below_drew1 | refine below_set ?_ GE156.out) | exact HB.out))) : w.heap.size ≤ gb157)); have n5_ := Aside0.mk ((by rw [hg]; exact Nat.ne_of_lt (blk_lt (g := gb156) (o := .cells #[.int .i64 a1] 2 (0, 0)) (by (with_reducible repeat (first | refine blk_drewN ?_ _ | refine blk_drew ?_ | refine blk_alloc ?_ _)); exact BK156.out)) : gb156 ≠ gb157)); have n6_ := Aside0.mk ((by rw [hg]; exact Nat.ne_of_gt (blk_lt (g := gb156) (o := .cells #[.int .i64 a1] 2 (0, 0)) (by (with_reducible repeat (first | refine blk_drewN ?_ _ | refine blk_drew ?_ | refine blk_alloc ?_ _)); exact BK156.out)) : gb157 ≠ gb156)); clear BK156; clear HB; have BK156 := n0_; have HB := n1_; have BK157 := n2_; have GW157 := n3_; have GE157 := n4_; have NB156_157 := n5_; have NB157_156 := n6_; clear n0_ n1_ n2_ n3_ n4_ n5_ n6_; clear hb hbox hg))
  have H := HC7.out
  clear HC7
  replace H := Option.bind_eq_some_iff.mp H
  obtain ⟨t158, A100, H⟩ := H
  replace H : (if t158 = true then (some (([] : List Int), 2)) else ((rate_May.f a1).bind fun t159 => (if t159 = true then ((value_fold_int64_int64__value_times_2.f k l0 0 a2 a1).bind fun bt160 => (some (bt160.1, bt160.2))) else (some (([] : List Int), 2))))) = some (r1, r2) := H
  have A10 := Aside0.mk A100
  clear A100
  by_cases c11 : t158 = true
  ·subst c11
   have H1 : (some (([] : List Int), 2)) = some (r1, r2) := by rw [if_pos rfl] at H; exact H
   clear H
   have H := H1
   clear H1
   simp only [Option.some.injEq, Prod.mk.injEq] at H
   obtain ⟨rfl, rfl⟩ := H
   go_wp2_with (first | ((with_reducible refine gate_callee (f := 60) rfl ?_); refine goesL_ (some 16) rfl rfl Star.func60 (by kernel_rfl) rfl #[.slice A0 l0.length c0, .func (.func 58) #[] #[]] rfl (by (try simp only [List.map_toArray, List.map_cons, List.map_nil]); first | done | rfl | (simp only [List.length_drop, List.length_take]; rfl)) ?_; (with_reducible refine (slices_ContainsFunc_int64_int64__value_times_1.calls k _ _ l0  true _ ?side1 ?side2 A10.out).mono ?_); (case side1 => repeat (first | exact (Kd.C_below HR0.out HB.out) | (with_reducible refine Kd.C_alloc ?_ _) | (with_reducible refine Kd.C_drewN ?_ _) | (with_reducible refine Kd.C_drew ?_))); (case side2 => exact HC0.out); rintro e w12 ⟨rfl, hb⟩; refine ⟨_, rfl, ?_⟩; have n0_ := Aside0.mk (blk_below (g := gb156) (o := .cells #[.int .i64 a1] 2 (0, 0)) (by (with_reducible repeat (first | refine blk_drewN ?_ _ | refine blk_drew ?_ | refine blk_alloc ?_ _)); exact BK156.out) hb); have n1_ := Aside0.mk (blk_below (g := gb157) (o := .cells #[.int .i64 a2] 2 (0, 0)) (by (with_reducible repeat (first | refine blk_drewN ?_ _ | refine blk_drew ?_ | refine blk_alloc ?_ _)); exact BK157.out) hb); have n2_ := Aside0.mk (below_step (by repeat (first | (with_reducible first | exact HB.out | apply below_alloc | apply pw_below_drewN | apply below_drew1 | refine below_set ?_ GE156.out | refine below_set ?_ GE157.out) | exact HB.out)) hb); clear BK156; clear BK157; clear HB; have BK156 := n0_; have BK157 := n1_; have HB := n2_; clear n0_ n1_ n2_; (try clear hb); (try clear hb2); (try clear hk); (try clear hi)))
   go_ret2
   exact ⟨_, by first | rfl | (simp [errW_none, errW_some] <;> rfl) | (simp [*, errW_none, errW_some] <;> rfl), by first | exact Kd.R_nil _ _ _ _ _ | exact Kd.N_nil _ _ _ _ _ | exact Kd.V_nil _ _ _ _ _ | exact Kd.Q_nil _ _ _ _ _ | exact Kd.S_nil _ _ _ _ _, by repeat (first | (with_reducible first | exact HB.out | apply below_alloc | apply pw_below_drewN | apply below_drew1 | refine below_set ?_ GE156.out | refine below_set ?_ GE157.out) | exact HB.out)⟩
  ·replace c11 := Bool.eq_false_iff.mpr c11
   subst c11
   have H1 : ((rate_May.f a1).bind fun t159 => (if t159 = true then ((value_fold_int64_int64__value_times_2.f k l0 0 a2 a1).bind fun bt160 => (some (bt160.1, bt160.2))) else (some (([] : List Int), 2)))) = some (r1, r2) := by rw [if_neg (show ¬ (false = true) by decide)] at H; exact H
   clear H
   have H := H1
   clear H1
   replace H := Option.bind_eq_some_iff.mp H
   obtain ⟨t159, A130, H⟩ := H
   replace H : (if t159 = true then ((value_fold_int64_int64__value_times_2.f k l0 0 a2 a1).bind fun bt160 => (some (bt160.1, bt160.2))) else (some (([] : List Int), 2))) = some (r1, r2) := H
   have A13 := Aside0.mk A130
   clear A130
   by_cases c14 : t159 = true
   ·subst c14
    have H1 : ((value_fold_int64_int64__value_times_2.f k l0 0 a2 a1).bind fun bt160 => (some (bt160.1, bt160.2))) = some (r1, r2) := by rw [if_pos rfl] at H; exact H
    clear H
    have H := H1
    clear H1
    replace H := Option.bind_eq_some_iff.mp H
    obtain ⟨⟨t160, t161⟩, A150, H⟩ := H
    replace H : (some (t160, t161)) = some (r1, r2) := H
    have A15 := Aside0.mk A150
    clear A150
    simp only [Option.some.injEq, Prod.mk.injEq] at H
    obtain ⟨rfl, rfl⟩ := H
    go_wp2_with (first | ((with_reducible refine gate_callee (f := 60) rfl ?_); refine goesL_ (some 16) rfl rfl Star.func60 (by kernel_rfl) rfl #[.slice A0 l0.length c0, .func (.func 58) #[] #[]] rfl (by (try simp only [List.map_toArray, List.map_cons, List.map_nil]); first | done | rfl | (simp only [List.length_drop, List.length_take]; rfl)) ?_; (with_reducible refine (slices_ContainsFunc_int64_int64__value_times_1.calls k _ _ l0  false _ ?side1 ?side2 A10.out).mono ?_); (case side1 => repeat (first | exact (Kd.C_below HR0.out HB.out) | (with_reducible refine Kd.C_alloc ?_ _) | (with_reducible refine Kd.C_drewN ?_ _) | (with_reducible refine Kd.C_drew ?_))); (case side2 => exact HC0.out); rintro e w16 ⟨rfl, hb⟩; refine ⟨_, rfl, ?_⟩; have n0_ := Aside0.mk (blk_below (g := gb156) (o := .cells #[.int .i64 a1] 2 (0, 0)) (by (with_reducible repeat (first | refine blk_drewN ?_ _ | refine blk_drew ?_ | refine blk_alloc ?_ _)); exact BK156.out) hb); have n1_ := Aside0.mk (blk_below (g := gb157) (o := .cells #[.int .i64 a2] 2 (0, 0)) (by (with_reducible repeat (first | refine blk_drewN ?_ _ | refine blk_drew ?_ | refine blk_alloc ?_ _)); exact BK157.out) hb); have n2_ := Aside0.mk (below_step (by repeat (first | (with_reducible first | exact HB.out | apply below_alloc | apply pw_below_drewN | apply below_drew1 | refine below_set ?_ GE156.out | refine below_set ?_ GE157.out) | exact HB.out)) hb); clear BK156; clear BK157; clear HB; have BK156 := n0_; have BK157 := n1_; have HB := n2_; clear n0_ n1_ n2_; (try clear hb); (try clear hb2); (try clear hk); (try clear hi); have hnb17 := NB156_157.out; have hnc17 := NB157_156.out; have hcz18_0 : w16.cell? ⟨gb156, 0, none⟩ = some (.int .i64 a1) := (blk_cell BK156.out 0).trans rfl; have hfz18_0 := blk_frozen BK156.out 0) | (go_at_call 26; (with_reducible refine (rate_May.calls a1 true _ A13.out).mono ?_); rintro e w' ⟨rfl, ⟨nd, rfl⟩⟩; have hcz19_0 : w16.cell? ⟨gb157, 0, none⟩ = some (.int .i64 a2) := (blk_cell BK157.out 0).trans rfl; have hfz19_0 := blk_frozen BK157.out 0) | ((with_reducible refine gate_callee (f := 61) rfl ?_); refine goesL_ (some 24) rfl rfl Star.func61 (by kernel_rfl) rfl #[.slice A0 l0.length c0, .int .i64 0, .func (.func 62) #[] #[.pointer (some ⟨gb157, 0, none⟩), .pointer (some ⟨gb156, 0, none⟩)]] rfl (by (try simp only [List.map_toArray, List.map_cons, List.map_nil]); first | done | rfl | (simp only [List.length_drop, List.length_take]; rfl)) ?_; (with_reducible refine (value_fold_int64_int64__value_times_2.calls k _ _ l0 0 gb157 a2 gb156 a1 t160 t161 _ ?side1 ?side2 ?side3 ?side4 A15.out).mono ?_); (case side1 => repeat (first | exact (Kd.C_below HR0.out (by repeat (first | (with_reducible first | exact HB.out | apply below_alloc | apply pw_below_drewN | apply below_drew1 | refine below_set ?_ GE156.out | refine below_set ?_ GE157.out) | exact HB.out))) | (with_reducible refine Kd.C_alloc ?_ _) | (with_reducible refine Kd.C_drewN ?_ _) | (with_reducible refine Kd.C_drew ?_))); (case side2 => exact HC0.out); (case side3 => (with_reducible repeat (first | refine blk_drewN ?_ _ | refine blk_drew ?_ | refine blk_alloc ?_ _)); exact BK157.out); (case side4 => (with_reducible repeat (first | refine blk_drewN ?_ _ | refine blk_drew ?_ | refine blk_alloc ?_ _)); exact BK156.out); rintro e w20 ⟨v162, rfl, ho0, hb⟩; refine ⟨_, rfl, ?_⟩; have n0_ := Aside0.mk (Kd.R_lower (Kd.R_newB (Kd.R_newB ho0 (g := gb156) (o := .cells #[.int .i64 a1] 2 (0, 0)) (by (with_reducible repeat (first | refine blk_drewN ?_ _ | refine blk_drew ?_ | refine blk_alloc ?_ _)); exact BK156.out)) (g := gb157) (o := .cells #[.int .i64 a2] 2 (0, 0)) (by (with_reducible repeat (first | refine blk_drewN ?_ _ | refine blk_drew ?_ | refine blk_alloc ?_ _)); exact BK157.out)) (below_size (by repeat (first | (with_reducible first | exact HB.out | apply below_alloc | apply pw_below_drewN | apply below_drew1 | refine below_set ?_ GE156.out | refine below_set ?_ GE157.out) | exact HB.out)))); have n1_ := Aside0.mk (blk_below (g := gb156) (o := .cells #[.int .i64 a1] 2 (0, 0)) (by (with_reducible repeat (first | refine blk_drewN ?_ _ | refine blk_drew ?_ | refine blk_alloc ?_ _)); exact BK156.out) hb); have n2_ := Aside0.mk (blk_below (g := gb157) (o := .cells #[.int .i64 a2] 2 (0, 0)) (by (with_reducible repeat (first | refine blk_drewN ?_ _ | refine blk_drew ?_ | refine blk_alloc ?_ _)); exact BK157.out) hb); have n3_ := Aside0.mk (below_step (by repeat (first | (with_reducible first | exact HB.out | apply below_alloc | apply pw_below_drewN | apply below_drew1 | refine below_set ?_ GE156.out | refine below_set ?_ GE157.out) | exact HB.out)) hb); clear BK156; clear BK157; clear HB; have HO163 := n0_; have BK156 := n1_; have BK157 := n2_; have HB := n3_; clear n0_ n1_ n2_ n3_; (try clear hb); (try clear hb2); (try clear hk); (try clear hi); (try clear ho0)))
    go_ret2
    exact ⟨_, by first | rfl | (simp [errW_none, errW_some] <;> rfl) | (simp [*, errW_none, errW_some] <;> rfl), by (with_reducible repeat (first | apply Kd.R_alloc | apply Kd.R_drewN | apply Kd.R_drew)); exact Kd.R_mono HO163.out (fun _ hk => trivial), by repeat (first | (with_reducible first | exact HB.out | apply below_alloc | apply pw_below_drewN | apply below_drew1 | refine below_set ?_ GE156.out | refine below_set ?_ GE157.out) | exact HB.out)⟩
   ·replace c14 := Bool.eq_false_iff.mpr c14
    subst c14
    have H1 : (some (([] : List Int), 2)) = some (r1, r2) := by rw [if_neg (show ¬ (false = true) by decide)] at H; exact H
    clear H
    have H := H1
    clear H1
    simp only [Option.some.injEq, Prod.mk.injEq] at H
    obtain ⟨rfl, rfl⟩ := H
    go_wp2_with (first | ((with_reducible refine gate_callee (f := 60) rfl ?_); refine goesL_ (some 16) rfl rfl Star.func60 (by kernel_rfl) rfl #[.slice A0 l0.length c0, .func (.func 58) #[] #[]] rfl (by (try simp only [List.map_toArray, List.map_cons, List.map_nil]); first | done | rfl | (simp only [List.length_drop, List.length_take]; rfl)) ?_; (with_reducible refine (slices_ContainsFunc_int64_int64__value_times_1.calls k _ _ l0  false _ ?side1 ?side2 A10.out).mono ?_); (case side1 => repeat (first | exact (Kd.C_below HR0.out HB.out) | (with_reducible refine Kd.C_alloc ?_ _) | (with_reducible refine Kd.C_drewN ?_ _) | (with_reducible refine Kd.C_drew ?_))); (case side2 => exact HC0.out); rintro e w21 ⟨rfl, hb⟩; refine ⟨_, rfl, ?_⟩; have n0_ := Aside0.mk (blk_below (g := gb156) (o := .cells #[.int .i64 a1] 2 (0, 0)) (by (with_reducible repeat (first | refine blk_drewN ?_ _ | refine blk_drew ?_ | refine blk_alloc ?_ _)); exact BK156.out) hb); have n1_ := Aside0.mk (blk_below (g := gb157) (o := .cells #[.int .i64 a2] 2 (0, 0)) (by (with_reducible repeat (first | refine blk_drewN ?_ _ | refine blk_drew ?_ | refine blk_alloc ?_ _)); exact BK157.out) hb); have n2_ := Aside0.mk (below_step (by repeat (first | (with_reducible first | exact HB.out | apply below_alloc | apply pw_below_drewN | apply below_drew1 | refine below_set ?_ GE156.out | refine below_set ?_ GE157.out) | exact HB.out)) hb); clear BK156; clear BK157; clear HB; have BK156 := n0_; have BK157 := n1_; have HB := n2_; clear n0_ n1_ n2_; (try clear hb); (try clear hb2); (try clear hk); (try clear hi); have hnb22 := NB156_157.out; have hnc22 := NB157_156.out; have hcz23_0 : w21.cell? ⟨gb156, 0, none⟩ = some (.int .i64 a1) := (blk_cell BK156.out 0).trans rfl; have hfz23_0 := blk_frozen BK156.out 0) | (go_at_call 26; (with_reducible refine (rate_May.calls a1 false _ A13.out).mono ?_); rintro e w' ⟨rfl, ⟨nd, rfl⟩⟩))
    go_ret2
    exact ⟨_, by first | rfl | (simp [errW_none, errW_some] <;> rfl) | (simp [*, errW_none, errW_some] <;> rfl), by first | exact Kd.R_nil _ _ _ _ _ | exact Kd.N_nil _ _ _ _ _ | exact Kd.V_nil _ _ _ _ _ | exact Kd.Q_nil _ _ _ _ _ | exact Kd.S_nil _ _ _ _ _, by repeat (first | (with_reducible first | exact HB.out | apply below_alloc | apply pw_below_drewN | apply below_drew1 | refine below_set ?_ GE156.out | refine below_set ?_ GE157.out) | exact HB.out)⟩
end Go.Proofs.Ytjgleaakgbnjgaa.S
end

section
namespace Go.Proofs.Ytjgleaakgbnjgaa.S
open Go.RowKit Go.Proofs.YtjgleaakgbnjgaaW.PrintWords Go.Proofs.YtjgleaakgbnjgaaW.PrintLast Go.Proofs.YtjgleaakgbnjgaaW.PrintMore
attribute [local go_sem] max2_int min2_int max_two min_two max_three min_three max_four min_four
attribute [local go_sem] XWalk.cell2
def value_now.f (k : Nat) (l0 : List Int) (a1 : Int) (a2 : Int) : Option (Int × Int) := (value_times.f k l0 a1 a2).bind fun bt164 => (if bt164.2 = 0 then (if 0 < (bt164.1.length : Int) then (some (rd bt164.1 0, 0)) else (none)) else (some (0, bt164.2)))
set_option maxHeartbeats 8000000 in
set_option maxRecDepth 100000 in
theorem value_now.calls (k : Nat) (A0 : Option Addr) (c0 : Nat) (l0 : List Int) (a1 : Int) (a2 : Int) (r1 : Int) (r2 : Int) (w : World) (hr0 : Kd.C (Kd.int .i64) w A0 l0.length l0) (hc0 : l0.length ≤ c0) (h : value_now.f k l0 a1 a2 = some (r1, r2)) :
  Calls Star.prog 27 #[.slice A0 l0.length c0, .int .i64 a1, .int .i64 a2] w fun e w' => e = .returned (.tuple #[.int .i64 r1, .int .i64 r2]) ∧ Below w.heap.size w w' := by
 have HR0 := Aside0.mk hr0
 have HC0 := Aside0.mk hc0
 clear hr0 hc0
 have HB := Aside0.mk (Below.refl w.heap.size w)
 have H : ((value_times.f k l0 a1 a2).bind fun bt164 => (if bt164.2 = 0 then (if 0 < (bt164.1.length : Int) then (some (rd bt164.1 0, 0)) else (none)) else (some (0, bt164.2)))) = some (r1, r2) := h
 clear h
 replace H := Option.bind_eq_some_iff.mp H
 obtain ⟨⟨t164, t165⟩, A40, H⟩ := H
 replace H : (if t165 = 0 then (if 0 < (t164.length : Int) then (some (rd t164 0, 0)) else (none)) else (some (0, t165))) = some (r1, r2) := H
 have A4 := Aside0.mk A40
 clear A40
 by_cases c5 : t165 = 0
 ·rw [if_pos c5] at H
  have c5b0 : (t165 == 0) = true := beq_iff_eq.mpr c5
  have c5b1 : (t165 != 0) = false := bne_eq_false_iff_eq.mpr c5
  clear c5
  by_cases c6 : 0 < (t164.length : Int)
  ·rw [if_pos c6] at H
   have c6b0 : decide (0 < (t164.length : Int)) = true := decide_eq_true c6
   have c6b1 : decide (0 < t164.length) = true := decide_eq_true (by omega)
   clear c6
   simp only [Option.some.injEq, Prod.mk.injEq] at H
   obtain ⟨rfl, rfl⟩ := H
   go_enter Star.func27, Try.ntmps27
   go_wp2_with (first | ((with_reducible refine gate_callee (f := 41) rfl ?_); refine goesL_ (some 14) rfl rfl Star.func41 (by kernel_rfl) rfl #[.slice A0 l0.length c0, .int .i64 a1, .int .i64 a2] rfl (by (try simp only [List.map_toArray, List.map_cons, List.map_nil]); first | done | rfl | (simp only [List.length_drop, List.length_take]; rfl)) ?_; (with_reducible refine (value_times.calls k _ _ l0 a1 a2 t164 t165 _ ?side1 ?side2 A4.out).mono ?_); (case side1 => repeat (first | exact HR0.out | (with_reducible refine Kd.C_alloc ?_ _) | (with_reducible refine Kd.C_drewN ?_ _) | (with_reducible refine Kd.C_drew ?_))); (case side2 => exact HC0.out); rintro e w7 ⟨v166, rfl, ho0, hb⟩; refine ⟨_, rfl, ?_⟩; have n0_ := Aside0.mk (Kd.R_lower ho0 (below_size (by repeat (first | (with_reducible first | exact HB.out | apply below_alloc | apply pw_below_drewN | apply below_drew1) | exact HB.out)))); have n1_ := Aside0.mk (below_step (by repeat (first | (with_reducible first | exact HB.out | apply below_alloc | apply pw_below_drewN | apply below_drew1) | exact HB.out)) hb); clear HB; have HO167 := n0_; have HB := n1_; clear n0_ n1_; (try clear hb); (try clear hb2); (try clear hk); (try clear hi); (try clear ho0); obtain ⟨Ao8, co8, eo8⟩ := Kd.R_slice HO167.out; subst eo8; have p168 : 0 ≤ (0 : Int) := (by omega); have q168 : 0 < (t164.length : Int) := of_decide_eq_true (by first | (with_reducible assumption) | assumption); obtain ⟨ad168, e168, hx168_0⟩ := Kd.at_int (Kd.R_reads' HO167.out).2.2 0 p168 q168; cases e168; have qi168 : (0 < t164.length) = True := eq_true (by omega); (try rw [show ((0 : Int)).toNat = 0 from rfl] at hx168_0); (try rw [Addr.add_zero'] at hx168_0); replace p168 := eq_true p168; replace q168 := eq_true q168))
   go_ret2
   exact ⟨by first | rfl | (simp [errW_none, errW_some] <;> rfl) | (simp [*, errW_none, errW_some] <;> rfl), by repeat (first | (with_reducible first | exact HB.out | apply below_alloc | apply pw_below_drewN | apply below_drew1) | exact HB.out)⟩
  ·rw [if_neg c6] at H
   exact absurd H (by simp)
 ·rw [if_neg c5] at H
  have c5b0 : (t165 == 0) = false := beq_eq_false_iff_ne.mpr c5
  have c5b1 : (t165 != 0) = true := bne_iff_ne.mpr c5
  simp only [Option.some.injEq, Prod.mk.injEq] at H
  obtain ⟨rfl, rfl⟩ := H
  go_enter Star.func27, Try.ntmps27
  go_wp2_with (first | ((with_reducible refine gate_callee (f := 41) rfl ?_); refine goesL_ (some 14) rfl rfl Star.func41 (by kernel_rfl) rfl #[.slice A0 l0.length c0, .int .i64 a1, .int .i64 a2] rfl (by (try simp only [List.map_toArray, List.map_cons, List.map_nil]); first | done | rfl | (simp only [List.length_drop, List.length_take]; rfl)) ?_; (with_reducible refine (value_times.calls k _ _ l0 a1 a2 t164 t165 _ ?side1 ?side2 A4.out).mono ?_); (case side1 => repeat (first | exact HR0.out | (with_reducible refine Kd.C_alloc ?_ _) | (with_reducible refine Kd.C_drewN ?_ _) | (with_reducible refine Kd.C_drew ?_))); (case side2 => exact HC0.out); rintro e w9 ⟨v166, rfl, ho0, hb⟩; refine ⟨_, rfl, ?_⟩; have n0_ := Aside0.mk (Kd.R_lower ho0 (below_size (by repeat (first | (with_reducible first | exact HB.out | apply below_alloc | apply pw_below_drewN | apply below_drew1) | exact HB.out)))); have n1_ := Aside0.mk (below_step (by repeat (first | (with_reducible first | exact HB.out | apply below_alloc | apply pw_below_drewN | apply below_drew1) | exact HB.out)) hb); clear HB; have HO167 := n0_; have HB := n1_; clear n0_ n1_; (try clear hb); (try clear hb2); (try clear hk); (try clear hi); (try clear ho0)))
  go_ret2
  exact ⟨by first | rfl | (simp [errW_none, errW_some] <;> rfl) | (simp [*, errW_none, errW_some] <;> rfl), by repeat (first | (with_reducible first | exact HB.out | apply below_alloc | apply pw_below_drewN | apply below_drew1) | exact HB.out)⟩
end Go.Proofs.Ytjgleaakgbnjgaa.S
end

section
namespace Go.Proofs.Ytjgleaakgbnjgaa.S
open Go.RowKit Go.Proofs.YtjgleaakgbnjgaaW.PrintWords Go.Proofs.YtjgleaakgbnjgaaW.PrintLast Go.Proofs.YtjgleaakgbnjgaaW.PrintMore
attribute [local go_sem] max2_int min2_int max_two min_two max_three min_three max_four min_four
attribute [local go_sem] XWalk.cell2
def value_Fine.f (k : Nat) (l0 : List Int) (a1 : Int) : Option (Int × Int) := (value_now.f k l0 a1 1000).bind fun bt169 => (some (bt169.1, bt169.2))
set_option maxHeartbeats 8000000 in
set_option maxRecDepth 100000 in
theorem value_Fine.calls (k : Nat) (A0 : Option Addr) (c0 : Nat) (l0 : List Int) (a1 : Int) (r1 : Int) (r2 : Int) (w : World) (hr0 : Kd.C (Kd.int .i64) w A0 l0.length l0) (hc0 : l0.length ≤ c0) (h : value_Fine.f k l0 a1 = some (r1, r2)) :
  Calls Star.prog 12 #[.slice A0 l0.length c0, .int .i64 a1] w fun e w' => e = .returned (.tuple #[.int .i64 r1, .int .i64 r2]) ∧ Below w.heap.size w w' := by
 have HR0 := Aside0.mk hr0
 have HC0 := Aside0.mk hc0
 clear hr0 hc0
 have HB := Aside0.mk (Below.refl w.heap.size w)
 have H : ((value_now.f k l0 a1 1000).bind fun bt169 => (some (bt169.1, bt169.2))) = some (r1, r2) := h
 clear h
 replace H := Option.bind_eq_some_iff.mp H
 obtain ⟨⟨t169, t170⟩, A30, H⟩ := H
 replace H : (some (t169, t170)) = some (r1, r2) := H
 have A3 := Aside0.mk A30
 clear A30
 simp only [Option.some.injEq, Prod.mk.injEq] at H
 obtain ⟨rfl, rfl⟩ := H
 go_enter Star.func12, Try.ntmps12
 go_wp2_with (first | ((with_reducible refine gate_callee (f := 27) rfl ?_); refine goesL_ (some 8) rfl rfl Star.func27 (by kernel_rfl) rfl #[.slice A0 l0.length c0, .int .i64 a1, .int .i64 1000] rfl (by (try simp only [List.map_toArray, List.map_cons, List.map_nil]); first | done | rfl | (simp only [List.length_drop, List.length_take]; rfl)) ?_; (with_reducible refine (value_now.calls k _ _ l0 a1 1000 t169 t170 _ ?side1 ?side2 A3.out).mono ?_); (case side1 => repeat (first | exact HR0.out | (with_reducible refine Kd.C_alloc ?_ _) | (with_reducible refine Kd.C_drewN ?_ _) | (with_reducible refine Kd.C_drew ?_))); (case side2 => exact HC0.out); rintro e w4 ⟨rfl, hb⟩; refine ⟨_, rfl, ?_⟩; have n0_ := Aside0.mk (below_step (by repeat (first | (with_reducible first | exact HB.out | apply below_alloc | apply pw_below_drewN | apply below_drew1) | exact HB.out)) hb); clear HB; have HB := n0_; clear n0_; (try clear hb); (try clear hb2); (try clear hk); (try clear hi)))
 go_ret2
 exact ⟨by first | rfl | (simp [errW_none, errW_some] <;> rfl) | (simp [*, errW_none, errW_some] <;> rfl), by repeat (first | (with_reducible first | exact HB.out | apply below_alloc | apply pw_below_drewN | apply below_drew1) | exact HB.out)⟩
end Go.Proofs.Ytjgleaakgbnjgaa.S
end

section
namespace Go.Proofs.Ytjgleaakgbnjgaa.S
open Go.RowKit Go.Proofs.YtjgleaakgbnjgaaW.PrintWords Go.Proofs.YtjgleaakgbnjgaaW.PrintLast Go.Proofs.YtjgleaakgbnjgaaW.PrintMore
attribute [local go_sem] max2_int min2_int max_two min_two max_three min_three max_four min_four
attribute [local go_sem] XWalk.cell2
mutual
def eir_may.j0 : Nat → List Int → Bool → Option (Bool)
 | 0, _, _ => none
 | k + 1, x1, x23 => if x23 = true then (some false) else (eir_may.l0 k false x1 (x1.length : Int) 0)
def eir_may.l0 : Nat → Bool → List Int → Int → Int → Option (Bool)
 | 0, _, _, _, _ => none
 | k + 1, x5, x24, x25, x26 => if x26 < x25 then (if 0 ≤ x26 then (if x26 < (x24.length : Int) then (if (rd x24 x26) < 0 then (some false) else (if (rd x24 x26) > 10000000000000 then (some false) else (if x5 = true then (eir_may.l0 k true x24 x25 (wrap64 (x26 + 1))) else (eir_may.l0 k (decide ((rd x24 x26) > 0)) x24 x25 (wrap64 (x26 + 1)))))) else (none)) else (none)) else (some x5)
end
def eir_may.f (k : Nat) (a0 : Int) (l1 : List Int) : Option (Bool) := if (l1.length : Int) = 0 then (eir_may.j0 k l1 true) else (if (l1.length : Int) > 600 then (eir_may.j0 k l1 true) else (if a0 < 1 then (eir_may.j0 k l1 true) else (eir_may.j0 k l1 (decide (a0 > 10000000000000)))))
set_option maxHeartbeats 8000000 in
set_option maxRecDepth 100000 in
theorem eir_may.calls (k : Nat) (a0 : Int) (A1 : Option Addr) (c1 : Nat) (l1 : List Int) (r : Bool) (w : World) (hr1 : Kd.C (Kd.int .i64) w A1 l1.length l1) (hc1 : l1.length ≤ c1) (h : eir_may.f k a0 l1 = some r) :
  Calls Star.prog 22 #[.int .i64 a0, .slice A1 l1.length c1] w fun e w' => e = .returned (.bool r) ∧ Drawn0 w w' := by
 have HR1 := Aside0.mk hr1
 have HC1 := Aside0.mk hc1
 clear hr1 hc1
 have H : (if (l1.length : Int) = 0 then (eir_may.j0 k l1 true) else (if (l1.length : Int) > 600 then (eir_may.j0 k l1 true) else (if a0 < 1 then (eir_may.j0 k l1 true) else (eir_may.j0 k l1 (decide (a0 > 10000000000000)))))) = some r := h
 clear h
 have HC3 := Aside0.mk H
 clear H
 go_enter Star.func22, Try.ntmps22
 go_upto_region 1 with (fail)
 go_cut [23] (fun v23 wc => ∃ (kq : Nat) (x23_2 : Bool), v23 = .bool x23_2 ∧ Aside0 (eir_may.j0 kq l1 x23_2 = some r) ∧ Aside0 (kq ≤ k) ∧ Drawn0 w wc)
 case first =>
  have H := HC3.out
  clear HC3
  by_cases c4 : (l1.length : Int) = 0
  ·rw [if_pos c4] at H
   have c4b0 : ((l1.length : Int) == 0) = true := beq_iff_eq.mpr c4
   have c4b1 : ((l1.length : Int) != 0) = false := bne_eq_false_iff_eq.mpr c4
   clear c4
   (first | rw [c4b0] | (simp only [i64_w, i32_w]; rw [c4b0]) | skip)
   have H' := Aside0.mk H
   clear H
   go_wp2
   go_meet
   case rel => exact ⟨_, (true), (by first | rfl | (simp; done) | (simp [*]; done)), H', ⟨by first | omega | exact Nat.le_refl _⟩, by repeat (first | exact Drawn0.refl _ | apply Drawn0.step)⟩
  ·rw [if_neg c4] at H
   have c4b0 : ((l1.length : Int) == 0) = false := beq_eq_false_iff_ne.mpr c4
   have c4b1 : ((l1.length : Int) != 0) = true := bne_iff_ne.mpr c4
   have c4b2 : ¬ (l1 = []) := fun h_ => c4 (by rw [h_]; rfl)
   (first | rw [c4b0] | (simp only [i64_w, i32_w]; rw [c4b0]) | skip)
   by_cases c5 : (l1.length : Int) > 600
   ·rw [if_pos c5] at H
    have c5b0 : decide (600 < (l1.length : Int)) = true := decide_eq_true c5
    have c5b1 : decide (600 < l1.length) = true := decide_eq_true (by omega)
    clear c5
    have H' := Aside0.mk H
    clear H
    go_wp2
    go_meet
    case rel => exact ⟨_, (true), (by first | rfl | (simp; done) | (simp [*]; done)), H', ⟨by first | omega | exact Nat.le_refl _⟩, by repeat (first | exact Drawn0.refl _ | apply Drawn0.step)⟩
   ·rw [if_neg c5] at H
    have c5b0 : decide (600 < (l1.length : Int)) = false := decide_eq_false c5
    have c5b1 : decide (600 < l1.length) = false := decide_eq_false (by omega)
    clear c5
    by_cases c6 : a0 < 1
    ·rw [if_pos c6] at H
     have c6b0 : decide (a0 < 1) = true := decide_eq_true c6
     clear c6
     have H' := Aside0.mk H
     clear H
     go_wp2
     go_meet
     case rel => exact ⟨_, (true), (by first | rfl | (simp; done) | (simp [*]; done)), H', ⟨by first | omega | exact Nat.le_refl _⟩, by repeat (first | exact Drawn0.refl _ | apply Drawn0.step)⟩
    ·rw [if_neg c6] at H
     have c6b0 : decide (a0 < 1) = false := decide_eq_false c6
     clear c6
     have H' := Aside0.mk H
     clear H
     go_wp2
     go_meet
     case rel => exact ⟨_, (decide (a0 > 10000000000000)), (by first | rfl | (simp; done) | (simp [*]; done)), H', ⟨by first | omega | exact Nat.le_refl _⟩, by repeat (first | exact Drawn0.refl _ | apply Drawn0.step)⟩
 case rest =>
  clear HC3
  try clear c1; try clear c2; try clear p2; try clear c4; try clear c4b0; try clear c4b1; try clear c4b2; try clear c5; try clear c5b0; try clear c5b1; try clear c6; try clear c6b0
  obtain ⟨kq, x23_2, rfl, HA, HJ2, ⟨mc2, rfl⟩⟩ := hcut
  cases kq with
  | zero => exact absurd HA.out (by simp [eir_may.j0])
  | succ kj2 =>
   have H := HA.out
   clear HA
   simp only [eir_may.j0] at H
   by_cases c7 : x23_2 = true
   ·subst c7
    have H1 : (some false) = some r := by rw [if_pos rfl] at H; exact H
    clear H
    have H := H1
    clear H1
    obtain rfl := Option.some.inj H
    go_wp2
    go_ret
    exact ⟨by first | rfl | (simp; done) | (simp [*]; done), by repeat (first | exact Drawn0.refl _ | apply Drawn0.step)⟩
   ·replace c7 := Bool.eq_false_iff.mpr c7
    subst c7
    have H1 : (eir_may.l0 kj2 false l1 (l1.length : Int) 0) = some r := by rw [if_neg (show ¬ (false = true) by decide)] at H; exact H
    clear H
    have H := H1
    clear H1
    have H' := Aside0.mk H
    clear H
    go_wp2
    go_loopg [5, 26] kj2 (fun kq v5 v26 w' => ∃ (x5_2 : Bool) (x26_2 : Int), v5 = .bool x5_2 ∧ v26 = .int .i64 x26_2 ∧ Aside0 (eir_may.l0 kq x5_2 l1 (l1.length : Int) x26_2 = some r) ∧ Aside0 (kq ≤ kj2) ∧ Drawn0 w w')
    case atStart => exact ⟨(false), (0), (by first | rfl | (simp; done) | (simp [*]; done)), (by first | rfl | (simp; done) | (simp [*]; done)), H', ⟨Nat.le_refl _⟩, by repeat (first | exact Drawn0.refl _ | apply Drawn0.step)⟩
    case round =>
     clear H'
     try clear c1; try clear c2; try clear p2; try clear c4; try clear c4b0; try clear c4b1; try clear c4b2; try clear c5; try clear c5b0; try clear c5b1; try clear c6; try clear c6b0; try clear c7; try clear p2
     obtain ⟨x5_2, x26_2, rfl, rfl, HA, HK2, ⟨m2, rfl⟩⟩ := hrel
     cases gk with
     | zero => exact absurd HA.out (by simp [eir_may.l0])
     | succ k2 =>
      have H := HA.out
      clear HA
      simp only [eir_may.l0] at H
      by_cases c8 : x26_2 < (l1.length : Int)
      ·rw [if_pos c8] at H
       have c8b0 : decide (x26_2 < (l1.length : Int)) = true := decide_eq_true c8
       clear c8
       by_cases c9 : 0 ≤ x26_2
       ·rw [if_pos c9] at H
        have c9b0 : decide (0 ≤ x26_2) = true := decide_eq_true c9
        clear c9
        by_cases c10 : x26_2 < (l1.length : Int)
        ·rw [if_pos c10] at H
         have c10b0 : decide (x26_2 < (l1.length : Int)) = true := decide_eq_true c10
         clear c10
         have HC11 := Aside0.mk H
         clear H
         have p101 : 0 ≤ (x26_2 : Int) := of_decide_eq_true (by first | (with_reducible assumption) | assumption)
         have q101 : x26_2 < (l1.length : Int) := of_decide_eq_true (by first | (with_reducible assumption) | assumption)
         obtain ⟨ad101, e101, hx101_0⟩ := Kd.at_int HR1.out x26_2 p101 q101
         cases e101
         replace p101 := eq_true p101
         replace q101 := eq_true q101
         go_upto_region 7 with (fail)
         have H := HC11.out
         clear HC11
         by_cases c12 : (rd l1 x26_2) < 0
         ·rw [if_pos c12] at H
          have c12b0 : decide ((rd l1 x26_2) < 0) = true := decide_eq_true c12
          clear c12
          obtain rfl := Option.some.inj H
          go_wp2
          go_ret
          exact ⟨by first | rfl | (simp; done) | (simp [*]; done), by repeat (first | exact Drawn0.refl _ | apply Drawn0.step)⟩
         ·rw [if_neg c12] at H
          have c12b0 : decide ((rd l1 x26_2) < 0) = false := decide_eq_false c12
          clear c12
          by_cases c13 : (rd l1 x26_2) > 10000000000000
          ·rw [if_pos c13] at H
           have c13b0 : decide (10000000000000 < (rd l1 x26_2)) = true := decide_eq_true c13
           clear c13
           obtain rfl := Option.some.inj H
           go_wp2
           go_ret
           exact ⟨by first | rfl | (simp; done) | (simp [*]; done), by repeat (first | exact Drawn0.refl _ | apply Drawn0.step)⟩
          ·rw [if_neg c13] at H
           have c13b0 : decide (10000000000000 < (rd l1 x26_2)) = false := decide_eq_false c13
           clear c13
           by_cases c14 : x5_2 = true
           ·subst c14
            have H1 : (eir_may.l0 k2 true l1 (l1.length : Int) (wrap64 (x26_2 + 1))) = some r := by rw [if_pos rfl] at H; exact H
            clear H
            have H := H1
            clear H1
            have H' := Aside0.mk H
            clear H
            go_wp2
            go_roundg k2
            case measure => have := HJ2.out; have := HK2.out; omega
            case rel => exact ⟨(true), (wrap64 (x26_2 + 1)), (by first | rfl | (simp; done) | (simp [*]; done)), (by first | rfl | (simp; done) | (simp [*]; done)), H', ⟨by have := HJ2.out; have := HK2.out; omega⟩, by repeat (first | exact Drawn0.refl _ | apply Drawn0.step)⟩
           ·replace c14 := Bool.eq_false_iff.mpr c14
            subst c14
            have H1 : (eir_may.l0 k2 (decide ((rd l1 x26_2) > 0)) l1 (l1.length : Int) (wrap64 (x26_2 + 1))) = some r := by rw [if_neg (show ¬ (false = true) by decide)] at H; exact H
            clear H
            have H := H1
            clear H1
            have H' := Aside0.mk H
            clear H
            go_wp2
            go_roundg k2
            case measure => have := HJ2.out; have := HK2.out; omega
            case rel => exact ⟨(decide ((rd l1 x26_2) > 0)), (wrap64 (x26_2 + 1)), (by first | rfl | (simp; done) | (simp [*]; done)), (by first | rfl | (simp; done) | (simp [*]; done)), H', ⟨by have := HJ2.out; have := HK2.out; omega⟩, by repeat (first | exact Drawn0.refl _ | apply Drawn0.step)⟩
        ·rw [if_neg c10] at H
         exact absurd H (by simp)
       ·rw [if_neg c9] at H
        exact absurd H (by simp)
      ·rw [if_neg c8] at H
       have c8b0 : decide (x26_2 < (l1.length : Int)) = false := decide_eq_false c8
       clear c8
       obtain rfl := Option.some.inj H
       go_wp2
       go_ret
       exact ⟨by first | rfl | (simp; done) | (simp [*]; done), by repeat (first | exact Drawn0.refl _ | apply Drawn0.step)⟩
end Go.Proofs.Ytjgleaakgbnjgaa.S
end

section
namespace Go.Proofs.Ytjgleaakgbnjgaa.S
open Go.RowKit Go.Proofs.YtjgleaakgbnjgaaW.PrintWords Go.Proofs.YtjgleaakgbnjgaaW.PrintLast Go.Proofs.YtjgleaakgbnjgaaW.PrintMore
attribute [local go_sem] max2_int min2_int max_two min_two max_three min_three max_four min_four
attribute [local go_sem] XWalk.cell2
def eir_covers.f (k : Nat) (a0 : Int) (l1 : List Int) (a2 : Int) : Option (Bool) := (value_Fine.f k l1 a2).bind fun bt171 => (if bt171.2 = 3 then (some true) else (if bt171.2 = 0 then (some (decide (bt171.1 ≥ (wrap64 (a0 * 1000))))) else (some false)))
set_option maxHeartbeats 8000000 in
set_option maxRecDepth 100000 in
theorem eir_covers.calls (k : Nat) (a0 : Int) (A1 : Option Addr) (c1 : Nat) (l1 : List Int) (a2 : Int) (r : Bool) (w : World) (hr1 : Kd.C (Kd.int .i64) w A1 l1.length l1) (hc1 : l1.length ≤ c1) (h : eir_covers.f k a0 l1 a2 = some r) :
  Calls Star.prog 24 #[.int .i64 a0, .slice A1 l1.length c1, .int .i64 a2] w fun e w' => e = .returned (.bool r) ∧ Below w.heap.size w w' := by
 have HR1 := Aside0.mk hr1
 have HC1 := Aside0.mk hc1
 clear hr1 hc1
 have HB := Aside0.mk (Below.refl w.heap.size w)
 have H : ((value_Fine.f k l1 a2).bind fun bt171 => (if bt171.2 = 3 then (some true) else (if bt171.2 = 0 then (some (decide (bt171.1 ≥ (wrap64 (a0 * 1000))))) else (some false)))) = some r := h
 clear h
 replace H := Option.bind_eq_some_iff.mp H
 obtain ⟨⟨t171, t172⟩, A40, H⟩ := H
 replace H : (if t172 = 3 then (some true) else (if t172 = 0 then (some (decide (t171 ≥ (wrap64 (a0 * 1000))))) else (some false))) = some r := H
 have A4 := Aside0.mk A40
 clear A40
 have HC5 := Aside0.mk H
 clear H
 go_enter Star.func24, Try.ntmps24
 go_upto_region 2 with (first | ((with_reducible refine gate_callee (f := 12) rfl ?_); refine goesL_ (some 12) rfl rfl Star.func12 (by kernel_rfl) rfl #[.slice A1 l1.length c1, .int .i64 a2] rfl (by (try simp only [List.map_toArray, List.map_cons, List.map_nil]); first | done | rfl | (simp only [List.length_drop, List.length_take]; rfl)) ?_; (with_reducible refine (value_Fine.calls k _ _ l1 a2 t171 t172 _ ?side1 ?side2 A4.out).mono ?_); (case side1 => repeat (first | exact HR1.out | (with_reducible refine Kd.C_alloc ?_ _) | (with_reducible refine Kd.C_drewN ?_ _) | (with_reducible refine Kd.C_drew ?_))); (case side2 => exact HC1.out); rintro e w6 ⟨rfl, hb⟩; refine ⟨_, rfl, ?_⟩; have n0_ := Aside0.mk (below_step (by repeat (first | (with_reducible first | exact HB.out | apply below_alloc | apply pw_below_drewN | apply below_drew1) | exact HB.out)) hb); clear HB; have HB := n0_; clear n0_; (try clear hb); (try clear hb2); (try clear hk); (try clear hi)))
 have H := HC5.out
 clear HC5
 by_cases c7 : t172 = 3
 ·rw [if_pos c7] at H
  have c7b0 : (t172 == 3) = true := beq_iff_eq.mpr c7
  have c7b1 : (t172 != 3) = false := bne_eq_false_iff_eq.mpr c7
  clear c7
  obtain rfl := Option.some.inj H
  go_wp2
  go_ret
  exact ⟨by first | rfl | (simp [errW_none, errW_some] <;> rfl) | (simp [*, errW_none, errW_some] <;> rfl), by repeat (first | (with_reducible first | exact HB.out | apply below_alloc | apply pw_below_drewN | apply below_drew1) | exact HB.out)⟩
 ·rw [if_neg c7] at H
  have c7b0 : (t172 == 3) = false := beq_eq_false_iff_ne.mpr c7
  have c7b1 : (t172 != 3) = true := bne_iff_ne.mpr c7
  by_cases c8 : t172 = 0
  ·rw [if_pos c8] at H
   have c8b0 : (t172 == 0) = true := beq_iff_eq.mpr c8
   have c8b1 : (t172 != 0) = false := bne_eq_false_iff_eq.mpr c8
   clear c8
   obtain rfl := Option.some.inj H
   go_wp2
   go_ret
   exact ⟨by first | rfl | (simp [errW_none, errW_some] <;> rfl) | (simp [*, errW_none, errW_some] <;> rfl), by repeat (first | (with_reducible first | exact HB.out | apply below_alloc | apply pw_below_drewN | apply below_drew1) | exact HB.out)⟩
  ·rw [if_neg c8] at H
   have c8b0 : (t172 == 0) = false := beq_eq_false_iff_ne.mpr c8
   have c8b1 : (t172 != 0) = true := bne_iff_ne.mpr c8
   obtain rfl := Option.some.inj H
   go_wp2
   go_ret
   exact ⟨by first | rfl | (simp [errW_none, errW_some] <;> rfl) | (simp [*, errW_none, errW_some] <;> rfl), by repeat (first | (with_reducible first | exact HB.out | apply below_alloc | apply pw_below_drewN | apply below_drew1) | exact HB.out)⟩
end Go.Proofs.Ytjgleaakgbnjgaa.S
end

section
namespace Go.Proofs.Ytjgleaakgbnjgaa.S
open Go.RowKit Go.Proofs.YtjgleaakgbnjgaaW.PrintWords Go.Proofs.YtjgleaakgbnjgaaW.PrintLast Go.Proofs.YtjgleaakgbnjgaaW.PrintMore
attribute [local go_sem] max2_int min2_int max_two min_two max_three min_three max_four min_four
attribute [local go_sem] XWalk.cell2
def eir_third_int64.f (a0 : Int) (a1 : Int) (a2 : Int) : Option (Int) := some (wrap64 (a0 + (wrap64 ((wrap64 (Int.tdiv (wrap64 (a1 - a0)) 3)) * a2))))
set_option maxHeartbeats 8000000 in
set_option maxRecDepth 100000 in
theorem eir_third_int64.calls (a0 : Int) (a1 : Int) (a2 : Int) (r : Int) (w : World) (h : eir_third_int64.f a0 a1 a2 = some r) :
  Calls Star.prog 52 #[.int .i64 a0, .int .i64 a1, .int .i64 a2] w fun e w' => e = .returned (.int .i64 r) ∧ Drawn0 w w' := by
 have H : (some (wrap64 (a0 + (wrap64 ((wrap64 (Int.tdiv (wrap64 (a1 - a0)) 3)) * a2))))) = some r := h
 clear h
 obtain rfl := Option.some.inj H
 go_enter Star.func52, Try.ntmps52
 go_wp2
 go_ret
 exact ⟨by first | rfl | (simp; done) | (simp [*]; done), by repeat (first | exact Drawn0.refl _ | apply Drawn0.step)⟩
end Go.Proofs.Ytjgleaakgbnjgaa.S
end

section
@[simp] theorem Go.Proofs.Star.ntmps10 : Go.Proofs.Star.f10.ntmps = 36 := rfl
namespace Go.Proofs.Ytjgleaakgbnjgaa.S
open Go.RowKit Go.Proofs.YtjgleaakgbnjgaaW.PrintWords Go.Proofs.YtjgleaakgbnjgaaW.PrintLast Go.Proofs.YtjgleaakgbnjgaaW.PrintMore
attribute [local go_sem] max2_int min2_int max_two min_two max_three min_three max_four min_four
attribute [local go_sem] XWalk.cell2
mutual
def eir_Solve.l0 : Nat → Int → List Int → Int → Int → Option (Int × Int)
 | 0, _, _, _, _ => none
 | k + 1, x0, x1, x3, x5 => if x5 < x3 then (if 0 ≤ x5 then (if x5 < (x1.length : Int) then (eir_Solve.l0 k x0 x1 x3 (wrap64 (x5 + 1))) else (none)) else (none)) else ((eir_may.f k x0 x1).bind fun t175 => (if t175 = true then ((eir_covers.f k x0 x1 (-990000000000)).bind fun t176 => (if t176 = true then ((eir_covers.f k x0 x1 10000000000000).bind fun t177 => (if t177 = true then (some (0, 13)) else (eir_Solve.l1 k x0 x1 (-990000000000) 10000000000000))) else (some (0, 13)))) else (some (0, 2))))
def eir_Solve.l1 : Nat → Int → List Int → Int → Int → Option (Int × Int)
 | 0, _, _, _, _ => none
 | k + 1, x0, x1, x19, x20 => if (wrap64 (x20 - x19)) > 3 then ((eir_third_int64.f x19 x20 1).bind fun t178 => ((eir_third_int64.f x19 x20 2).bind fun t179 => ((eir_covers.f k x0 x1 t178).bind fun t180 => ((eir_covers.f k x0 x1 t179).bind fun t181 => (if t180 = true then (if t181 = true then (eir_Solve.l1 k x0 x1 (mx (mx x19 t178) t179) x20) else (eir_Solve.l1 k x0 x1 (mx x19 t178) (mn x20 t179))) else (if t181 = true then (eir_Solve.l1 k x0 x1 (mx x19 t179) (mn x20 t178)) else (eir_Solve.l1 k x0 x1 x19 (mn (mn x20 t178) t179)))))))) else (eir_Solve.l2 k x0 x1 x19 x20)
def eir_Solve.l2 : Nat → Int → List Int → Int → Int → Option (Int × Int)
 | 0, _, _, _, _ => none
 | k + 1, x0, x1, x19, x20 => if (wrap64 (x20 - x19)) > 1 then ((eir_covers.f k x0 x1 (wrap64 (x19 + 1))).bind fun t182 => (if t182 = true then (eir_Solve.l2 k x0 x1 (wrap64 (x19 + 1)) x20) else (some (x19, 0)))) else (some (x19, 0))
end
def eir_Solve.f (k : Nat) (a0 : Int) (l1 : List Int) : Option (Int × Int) := if 0 ≤ (l1.length : Int) then (if (l1.length : Int) ≤ (l1.length : Int) then (eir_Solve.l0 k a0 l1 (l1.length : Int) 0) else (none)) else (none)
set_option maxHeartbeats 8000000 in
set_option maxRecDepth 100000 in
theorem eir_Solve.calls (k : Nat) (a0 : Int) (A1 : Option Addr) (c1 : Nat) (l1 : List Int) (r1 : Int) (r2 : Int) (w : World) (hr1 : Kd.C (Kd.int .i64) w A1 l1.length l1) (hc1 : l1.length ≤ c1) (h : eir_Solve.f k a0 l1 = some (r1, r2)) :
  Calls Star.prog 10 #[.int .i64 a0, .slice A1 l1.length c1] w fun e w' => e = .returned (.tuple #[.int .i64 r1, .int .i64 r2]) ∧ Below w.heap.size w w' := by
 have HR1 := Aside0.mk hr1
 have HC1 := Aside0.mk hc1
 clear hr1 hc1
 have HB := Aside0.mk (Below.refl w.heap.size w)
 have H : (if 0 ≤ (l1.length : Int) then (if (l1.length : Int) ≤ (l1.length : Int) then (eir_Solve.l0 k a0 l1 (l1.length : Int) 0) else (none)) else (none)) = some (r1, r2) := h
 clear h
 by_cases c3 : 0 ≤ (l1.length : Int)
 ·rw [if_pos c3] at H
  have c3b0 := eq_true c3
  have c3b1 : decide (0 ≤ (l1.length : Int)) = true := decide_eq_true c3
  clear c3
  by_cases c4 : (l1.length : Int) ≤ (l1.length : Int)
  ·rw [if_pos c4] at H
   have c4b0 := eq_true c4
   have c4b1 : decide ((l1.length : Int) ≤ (l1.length : Int)) = true := decide_eq_true c4
   clear c4
   have H' := Aside0.mk H
   clear H
   obtain ⟨i05, hi05, _, hsz5, _⟩ := info_parts info2
   obtain ⟨hcut5, hA5, hC5⟩ := print_take_of (P := Star.prog) (Value.int .i64) 0 22 2 .i64 Star.underlying22 hi05 hsz5 A1 c1 l1 (l1.length : Int) (of_decide_eq_true (by first | (with_reducible assumption) | assumption)) (of_decide_eq_true (by first | (with_reducible assumption) | assumption)) HC1.out
   have HR173 := Aside0.mk (Kd.C_of_reads (h1 := fun _ => rfl) (hA5 _ (Kd.reads_of_C HR1.out)))
   have HC173 := Aside0.mk hC5
   clear hA5 hC5 hi05 hsz5
   go_enter Star.func10, Star.ntmps10
   delta Go.Proofs.Star.body10
   go_wp2
   go_loopg [5] k (fun kq v5 w' => ∃ (x5_1 : Int), v5 = .int .i64 x5_1 ∧ Aside0 (eir_Solve.l0 kq a0 l1 (l1.length : Int) x5_1 = some (r1, r2)) ∧ Aside0 (kq ≤ k) ∧ Aside0 (Below w.heap.size w w'))
   case atStart => exact ⟨(0), (by first | rfl | (simp; done) | (simp [*]; done)), H', ⟨Nat.le_refl _⟩, ⟨by repeat (first | (with_reducible first | exact HB.out | apply below_alloc | apply pw_below_drewN | apply below_drew1) | exact HB.out)⟩⟩
   case round =>
    clear H'
    try clear c1; try clear p2; try clear c3; try clear c3b0; try clear c3b1; try clear c4; try clear c4b0; try clear c4b1
    obtain ⟨x5_1, rfl, HA, HK1, HB⟩ := hrel
    cases gk with
    | zero => exact absurd HA.out (by simp [eir_Solve.l0])
    | succ k1 =>
     have H := HA.out
     clear HA
     simp only [eir_Solve.l0] at H
     by_cases c6 : x5_1 < (l1.length : Int)
     ·rw [if_pos c6] at H
      have c6b0 : decide (x5_1 < (l1.length : Int)) = true := decide_eq_true c6
      clear c6
      by_cases c7 : 0 ≤ x5_1
      ·rw [if_pos c7] at H
       have c7b0 : decide (0 ≤ x5_1) = true := decide_eq_true c7
       clear c7
       by_cases c8 : x5_1 < (l1.length : Int)
       ·rw [if_pos c8] at H
        have c8b0 : decide (x5_1 < (l1.length : Int)) = true := decide_eq_true c8
        clear c8
        have H' := Aside0.mk H
        clear H
        have p174 : 0 ≤ (x5_1 : Int) := of_decide_eq_true (by first | (with_reducible assumption) | assumption)
        have q174 : x5_1 < (l1.length : Int) := of_decide_eq_true (by first | (with_reducible assumption) | assumption)
        obtain ⟨ad174, e174, hx174_0⟩ := Kd.at_int HR1.out x5_1 p174 q174
        cases e174
        try replace hx174_0 := (HB.out.cell (World.block_lt_of_cell? w _ hx174_0)).trans hx174_0
        replace p174 := eq_true p174
        replace q174 := eq_true q174
        go_wp2
        go_roundg k1
        case measure => have := HK1.out; omega
        case rel => exact ⟨(wrap64 (x5_1 + 1)), (by first | rfl | (simp; done) | (simp [*]; done)), H', ⟨by have := HK1.out; omega⟩, ⟨by repeat (first | (with_reducible first | exact HB.out | apply below_alloc | apply pw_below_drewN | apply below_drew1) | exact HB.out)⟩⟩
       ·rw [if_neg c8] at H
        exact absurd H (by simp)
      ·rw [if_neg c7] at H
       exact absurd H (by simp)
     ·rw [if_neg c6] at H
      have c6b0 : decide (x5_1 < (l1.length : Int)) = false := decide_eq_false c6
      clear c6
      replace H := Option.bind_eq_some_iff.mp H
      obtain ⟨t175, A90, H⟩ := H
      replace H : (if t175 = true then ((eir_covers.f k1 a0 l1 (-990000000000)).bind fun t176 => (if t176 = true then ((eir_covers.f k1 a0 l1 10000000000000).bind fun t177 => (if t177 = true then (some (0, 13)) else (eir_Solve.l1 k1 a0 l1 (-990000000000) 10000000000000))) else (some (0, 13)))) else (some (0, 2))) = some (r1, r2) := H
      have A9 := Aside0.mk A90
      clear A90
      by_cases c10 : t175 = true
      ·subst c10
       have H1 : ((eir_covers.f k1 a0 l1 (-990000000000)).bind fun t176 => (if t176 = true then ((eir_covers.f k1 a0 l1 10000000000000).bind fun t177 => (if t177 = true then (some (0, 13)) else (eir_Solve.l1 k1 a0 l1 (-990000000000) 10000000000000))) else (some (0, 13)))) = some (r1, r2) := by rw [if_pos rfl] at H; exact H
       clear H
       have H := H1
       clear H1
       replace H := Option.bind_eq_some_iff.mp H
       obtain ⟨t176, A110, H⟩ := H
       replace H : (if t176 = true then ((eir_covers.f k1 a0 l1 10000000000000).bind fun t177 => (if t177 = true then (some (0, 13)) else (eir_Solve.l1 k1 a0 l1 (-990000000000) 10000000000000))) else (some (0, 13))) = some (r1, r2) := H
       have A11 := Aside0.mk A110
       clear A110
       by_cases c12 : t176 = true
       ·subst c12
        have H1 : ((eir_covers.f k1 a0 l1 10000000000000).bind fun t177 => (if t177 = true then (some (0, 13)) else (eir_Solve.l1 k1 a0 l1 (-990000000000) 10000000000000))) = some (r1, r2) := by rw [if_pos rfl] at H; exact H
        clear H
        have H := H1
        clear H1
        replace H := Option.bind_eq_some_iff.mp H
        obtain ⟨t177, A130, H⟩ := H
        replace H : (if t177 = true then (some (0, 13)) else (eir_Solve.l1 k1 a0 l1 (-990000000000) 10000000000000)) = some (r1, r2) := H
        have A13 := Aside0.mk A130
        clear A130
        by_cases c14 : t177 = true
        ·subst c14
         have H1 : (some (0, 13)) = some (r1, r2) := by rw [if_pos rfl] at H; exact H
         clear H
         have H := H1
         clear H1
         simp only [Option.some.injEq, Prod.mk.injEq] at H
         obtain ⟨rfl, rfl⟩ := H
         go_wp2_with (first | ((with_reducible refine gate_callee (f := 22) rfl ?_); refine goesL_ (some 11) rfl rfl Star.func22 (by kernel_rfl) rfl #[.int .i64 a0, .slice A1 l1.length c1] rfl (by (try simp only [List.map_toArray, List.map_cons, List.map_nil]); first | done | rfl | (simp only [List.length_drop, List.length_take]; rfl)) ?_; (with_reducible refine (eir_may.calls k1 a0 _ _ l1 true _ ?side1 ?side2 A9.out).mono ?_); (case side1 => repeat (first | exact (Kd.C_below HR1.out HB.out) | (with_reducible refine Kd.C_alloc ?_ _) | (with_reducible refine Kd.C_drewN ?_ _) | (with_reducible refine Kd.C_drew ?_))); (case side2 => exact HC1.out); rintro e w' ⟨rfl, ⟨nd, rfl⟩⟩; refine ⟨_, rfl, ?_⟩) | ((with_reducible refine gate_callee (f := 24) rfl ?_); refine goesL_ (some 15) rfl rfl Star.func24 (by kernel_rfl) rfl #[.int .i64 a0, .slice A1 l1.length c1, .int .i64 (-990000000000)] rfl (by (try simp only [List.map_toArray, List.map_cons, List.map_nil]); first | done | rfl | (simp only [List.length_drop, List.length_take]; rfl)) ?_; (with_reducible refine (eir_covers.calls k1 a0 _ _ l1 (-990000000000) true _ ?side1 ?side2 A11.out).mono ?_); (case side1 => repeat (first | exact (Kd.C_below HR1.out (by repeat (first | (with_reducible first | exact HB.out | apply below_alloc | apply pw_below_drewN | apply below_drew1) | exact HB.out))) | (with_reducible refine Kd.C_alloc ?_ _) | (with_reducible refine Kd.C_drewN ?_ _) | (with_reducible refine Kd.C_drew ?_))); (case side2 => exact HC1.out); rintro e w15 ⟨rfl, hb⟩; refine ⟨_, rfl, ?_⟩; have n0_ := Aside0.mk (below_step (by repeat (first | (with_reducible first | exact HB.out | apply below_alloc | apply pw_below_drewN | apply below_drew1) | exact HB.out)) hb); clear HB; have HB := n0_; clear n0_; (try clear hb); (try clear hb2); (try clear hk); (try clear hi)) | ((with_reducible refine gate_callee (f := 24) rfl ?_); refine goesL_ (some 16) rfl rfl Star.func24 (by kernel_rfl) rfl #[.int .i64 a0, .slice A1 l1.length c1, .int .i64 10000000000000] rfl (by (try simp only [List.map_toArray, List.map_cons, List.map_nil]); first | done | rfl | (simp only [List.length_drop, List.length_take]; rfl)) ?_; (with_reducible refine (eir_covers.calls k1 a0 _ _ l1 10000000000000 true _ ?side1 ?side2 A13.out).mono ?_); (case side1 => repeat (first | exact (Kd.C_below HR1.out HB.out) | (with_reducible refine Kd.C_alloc ?_ _) | (with_reducible refine Kd.C_drewN ?_ _) | (with_reducible refine Kd.C_drew ?_))); (case side2 => exact HC1.out); rintro e w16 ⟨rfl, hb⟩; refine ⟨_, rfl, ?_⟩; have n0_ := Aside0.mk (below_step (by repeat (first | (with_reducible first | exact HB.out | apply below_alloc | apply pw_below_drewN | apply below_drew1) | exact HB.out)) hb); clear HB; have HB := n0_; clear n0_; (try clear hb); (try clear hb2); (try clear hk); (try clear hi)))
         go_ret2
         exact ⟨by first | rfl | (simp [errW_none, errW_some] <;> rfl) | (simp [*, errW_none, errW_some] <;> rfl), by repeat (first | (with_reducible first | exact HB.out | apply below_alloc | apply pw_below_drewN | apply below_drew1) | exact HB.out)⟩
        ·replace c14 := Bool.eq_false_iff.mpr c14
         subst c14
         have H1 : (eir_Solve.l1 k1 a0 l1 (-990000000000) 10000000000000) = some (r1, r2) := by rw [if_neg (show ¬ (false = true) by decide)] at H; exact H
         clear H
         have H := H1
         clear H1
         have H' := Aside0.mk H
         clear H
         go_wp2_with (first | ((with_reducible refine gate_callee (f := 22) rfl ?_); refine goesL_ (some 11) rfl rfl Star.func22 (by kernel_rfl) rfl #[.int .i64 a0, .slice A1 l1.length c1] rfl (by (try simp only [List.map_toArray, List.map_cons, List.map_nil]); first | done | rfl | (simp only [List.length_drop, List.length_take]; rfl)) ?_; (with_reducible refine (eir_may.calls k1 a0 _ _ l1 true _ ?side1 ?side2 A9.out).mono ?_); (case side1 => repeat (first | exact (Kd.C_below HR1.out HB.out) | (with_reducible refine Kd.C_alloc ?_ _) | (with_reducible refine Kd.C_drewN ?_ _) | (with_reducible refine Kd.C_drew ?_))); (case side2 => exact HC1.out); rintro e w' ⟨rfl, ⟨nd, rfl⟩⟩; refine ⟨_, rfl, ?_⟩) | ((with_reducible refine gate_callee (f := 24) rfl ?_); refine goesL_ (some 15) rfl rfl Star.func24 (by kernel_rfl) rfl #[.int .i64 a0, .slice A1 l1.length c1, .int .i64 (-990000000000)] rfl (by (try simp only [List.map_toArray, List.map_cons, List.map_nil]); first | done | rfl | (simp only [List.length_drop, List.length_take]; rfl)) ?_; (with_reducible refine (eir_covers.calls k1 a0 _ _ l1 (-990000000000) true _ ?side1 ?side2 A11.out).mono ?_); (case side1 => repeat (first | exact (Kd.C_below HR1.out (by repeat (first | (with_reducible first | exact HB.out | apply below_alloc | apply pw_below_drewN | apply below_drew1) | exact HB.out))) | (with_reducible refine Kd.C_alloc ?_ _) | (with_reducible refine Kd.C_drewN ?_ _) | (with_reducible refine Kd.C_drew ?_))); (case side2 => exact HC1.out); rintro e w17 ⟨rfl, hb⟩; refine ⟨_, rfl, ?_⟩; have n0_ := Aside0.mk (below_step (by repeat (first | (with_reducible first | exact HB.out | apply below_alloc | apply pw_below_drewN | apply below_drew1) | exact HB.out)) hb); clear HB; have HB := n0_; clear n0_; (try clear hb); (try clear hb2); (try clear hk); (try clear hi)) | ((with_reducible refine gate_callee (f := 24) rfl ?_); refine goesL_ (some 16) rfl rfl Star.func24 (by kernel_rfl) rfl #[.int .i64 a0, .slice A1 l1.length c1, .int .i64 10000000000000] rfl (by (try simp only [List.map_toArray, List.map_cons, List.map_nil]); first | done | rfl | (simp only [List.length_drop, List.length_take]; rfl)) ?_; (with_reducible refine (eir_covers.calls k1 a0 _ _ l1 10000000000000 false _ ?side1 ?side2 A13.out).mono ?_); (case side1 => repeat (first | exact (Kd.C_below HR1.out HB.out) | (with_reducible refine Kd.C_alloc ?_ _) | (with_reducible refine Kd.C_drewN ?_ _) | (with_reducible refine Kd.C_drew ?_))); (case side2 => exact HC1.out); rintro e w18 ⟨rfl, hb⟩; refine ⟨_, rfl, ?_⟩; have n0_ := Aside0.mk (below_step (by repeat (first | (with_reducible first | exact HB.out | apply below_alloc | apply pw_below_drewN | apply below_drew1) | exact HB.out)) hb); clear HB; have HB := n0_; clear n0_; (try clear hb); (try clear hb2); (try clear hk); (try clear hi)))
         go_loopg [19, 20] k1 (fun kq v19 v20 w' => ∃ (x19_2 : Int) (x20_2 : Int), v19 = .int .i64 x19_2 ∧ v20 = .int .i64 x20_2 ∧ Aside0 (eir_Solve.l1 kq a0 l1 x19_2 x20_2 = some (r1, r2)) ∧ Aside0 (kq ≤ k1) ∧ Aside0 (Below w.heap.size w w'))
         case atStart => exact ⟨((-990000000000)), (10000000000000), (by first | rfl | (simp; done) | (simp [*]; done)), (by first | rfl | (simp; done) | (simp [*]; done)), H', ⟨Nat.le_refl _⟩, ⟨by repeat (first | (with_reducible first | exact HB.out | apply below_alloc | apply pw_below_drewN | apply below_drew1) | exact HB.out)⟩⟩
         case round =>
          clear H'
          try clear c1; try clear p1; try clear q1; try clear hx1; try clear c2; try clear p2; try clear c3; try clear c3b0; try clear c3b1; try clear c4; try clear c4b0; try clear c4b1; try clear c6; try clear c6b0; try clear p6; try clear c7; try clear c7b0; try clear c8; try clear c8b0; try clear c10; try clear c12; try clear c14; try clear p17; try clear q17; try clear hx17; try clear hx174_0; try clear p174; try clear p2; try clear q174
          obtain ⟨x19_2, x20_2, rfl, rfl, HA, HK2, HB⟩ := hrel
          cases gk with
          | zero => exact absurd HA.out (by simp [eir_Solve.l1])
          | succ k2 =>
           have H := HA.out
           clear HA
           simp only [eir_Solve.l1] at H
           by_cases c19 : (wrap64 (x20_2 - x19_2)) > 3
           ·rw [if_pos c19] at H
            have c19b0 : decide (3 < (wrap64 (x20_2 - x19_2))) = true := decide_eq_true c19
            clear c19
            replace H := Option.bind_eq_some_iff.mp H
            obtain ⟨t178, A200, H⟩ := H
            replace H : ((eir_third_int64.f x19_2 x20_2 2).bind fun t179 => ((eir_covers.f k2 a0 l1 t178).bind fun t180 => ((eir_covers.f k2 a0 l1 t179).bind fun t181 => (if t180 = true then (if t181 = true then (eir_Solve.l1 k2 a0 l1 (mx (mx x19_2 t178) t179) x20_2) else (eir_Solve.l1 k2 a0 l1 (mx x19_2 t178) (mn x20_2 t179))) else (if t181 = true then (eir_Solve.l1 k2 a0 l1 (mx x19_2 t179) (mn x20_2 t178)) else (eir_Solve.l1 k2 a0 l1 x19_2 (mn (mn x20_2 t178) t179))))))) = some (r1, r2) := H
            have A20 := Aside0.mk A200
            clear A200
            replace H := Option.bind_eq_some_iff.mp H
            obtain ⟨t179, A210, H⟩ := H
            replace H : ((eir_covers.f k2 a0 l1 t178).bind fun t180 => ((eir_covers.f k2 a0 l1 t179).bind fun t181 => (if t180 = true then (if t181 = true then (eir_Solve.l1 k2 a0 l1 (mx (mx x19_2 t178) t179) x20_2) else (eir_Solve.l1 k2 a0 l1 (mx x19_2 t178) (mn x20_2 t179))) else (if t181 = true then (eir_Solve.l1 k2 a0 l1 (mx x19_2 t179) (mn x20_2 t178)) else (eir_Solve.l1 k2 a0 l1 x19_2 (mn (mn x20_2 t178) t179)))))) = some (r1, r2) := H
            have A21 := Aside0.mk A210
            clear A210
            replace H := Option.bind_eq_some_iff.mp H
            obtain ⟨t180, A220, H⟩ := H
            replace H : ((eir_covers.f k2 a0 l1 t179).bind fun t181 => (if t180 = true then (if t181 = true then (eir_Solve.l1 k2 a0 l1 (mx (mx x19_2 t178) t179) x20_2) else (eir_Solve.l1 k2 a0 l1 (mx x19_2 t178) (mn x20_2 t179))) else (if t181 = true then (eir_Solve.l1 k2 a0 l1 (mx x19_2 t179) (mn x20_2 t178)) else (eir_Solve.l1 k2 a0 l1 x19_2 (mn (mn x20_2 t178) t179))))) = some (r1, r2) := H
            have A22 := Aside0.mk A220
            clear A220
            replace H := Option.bind_eq_some_iff.mp H
            obtain ⟨t181, A230, H⟩ := H
            replace H : (if t180 = true then (if t181 = true then (eir_Solve.l1 k2 a0 l1 (mx (mx x19_2 t178) t179) x20_2) else (eir_Solve.l1 k2 a0 l1 (mx x19_2 t178) (mn x20_2 t179))) else (if t181 = true then (eir_Solve.l1 k2 a0 l1 (mx x19_2 t179) (mn x20_2 t178)) else (eir_Solve.l1 k2 a0 l1 x19_2 (mn (mn x20_2 t178) t179)))) = some (r1, r2) := H
            have A23 := Aside0.mk A230
            clear A230
            by_cases c24 : t180 = true
            ·subst c24
             have H1 : (if t181 = true then (eir_Solve.l1 k2 a0 l1 (mx (mx x19_2 t178) t179) x20_2) else (eir_Solve.l1 k2 a0 l1 (mx x19_2 t178) (mn x20_2 t179))) = some (r1, r2) := by rw [if_pos rfl] at H; exact H
             clear H
             have H := H1
             clear H1
             obtain ⟨ji25, hji25⟩ : ∃ j_ : Int, (mx x19_2 t178) = j_ := ⟨_, rfl⟩
             replace H : (if t181 = true then (eir_Solve.l1 k2 a0 l1 (mx (ji25) t179) x20_2) else (eir_Solve.l1 k2 a0 l1 ji25 (mn x20_2 t179))) = some (r1, r2) := by first | (rw [hji25] at H; exact H) | (simp only [hji25] at H ⊢; exact H)
             (try rw [hji25] at A20)
             (try rw [hji25] at A21)
             (try rw [hji25] at A22)
             (try rw [hji25] at A23)
             have hji25_ : (if x19_2 < t178 then t178 else x19_2) = ji25 := hji25
             by_cases c26 : t181 = true
             ·subst c26
              have H1 : (eir_Solve.l1 k2 a0 l1 (mx (ji25) t179) x20_2) = some (r1, r2) := by rw [if_pos rfl] at H; exact H
              clear H
              have H := H1
              clear H1
              obtain ⟨ji27, hji27⟩ : ∃ j_ : Int, (mx (ji25) t179) = j_ := ⟨_, rfl⟩
              replace H : (eir_Solve.l1 k2 a0 l1 ji27 x20_2) = some (r1, r2) := by first | (rw [hji27] at H; exact H) | (simp only [hji27] at H ⊢; exact H)
              (try rw [hji27] at A20)
              (try rw [hji27] at A21)
              (try rw [hji27] at A22)
              (try rw [hji27] at A23)
              have hji27_ : (if (ji25) < t179 then t179 else (ji25)) = ji27 := hji27
              have H' := Aside0.mk H
              clear H
              go_wp2_with (first | ((with_reducible refine gate_callee (f := 52) rfl ?_); refine goesL_ (some 23) rfl rfl Star.func52 (by kernel_rfl) rfl #[.int .i64 x19_2, .int .i64 x20_2, .int .i64 1] rfl (by (try simp only [List.map_toArray, List.map_cons, List.map_nil]); first | done | rfl | (simp only [List.length_drop, List.length_take]; rfl)) ?_; (with_reducible refine (eir_third_int64.calls x19_2 x20_2 1 t178 _ A20.out).mono ?_); rintro e w' ⟨rfl, ⟨nd, rfl⟩⟩; refine ⟨_, rfl, ?_⟩) | ((with_reducible refine gate_callee (f := 52) rfl ?_); refine goesL_ (some 24) rfl rfl Star.func52 (by kernel_rfl) rfl #[.int .i64 x19_2, .int .i64 x20_2, .int .i64 2] rfl (by (try simp only [List.map_toArray, List.map_cons, List.map_nil]); first | done | rfl | (simp only [List.length_drop, List.length_take]; rfl)) ?_; (with_reducible refine (eir_third_int64.calls x19_2 x20_2 2 t179 _ A21.out).mono ?_); rintro e w' ⟨rfl, ⟨nd, rfl⟩⟩; refine ⟨_, rfl, ?_⟩) | ((with_reducible refine gate_callee (f := 24) rfl ?_); refine goesL_ (some 25) rfl rfl Star.func24 (by kernel_rfl) rfl #[.int .i64 a0, .slice A1 l1.length c1, .int .i64 t178] rfl (by (try simp only [List.map_toArray, List.map_cons, List.map_nil]); first | done | rfl | (simp only [List.length_drop, List.length_take]; rfl)) ?_; (with_reducible refine (eir_covers.calls k2 a0 _ _ l1 t178 true _ ?side1 ?side2 A22.out).mono ?_); (case side1 => repeat (first | exact (Kd.C_below HR1.out (by repeat (first | (with_reducible first | exact HB.out | apply below_alloc | apply pw_below_drewN | apply below_drew1) | exact HB.out))) | (with_reducible refine Kd.C_alloc ?_ _) | (with_reducible refine Kd.C_drewN ?_ _) | (with_reducible refine Kd.C_drew ?_))); (case side2 => exact HC1.out); rintro e w28 ⟨rfl, hb⟩; refine ⟨_, rfl, ?_⟩; have n0_ := Aside0.mk (below_step (by repeat (first | (with_reducible first | exact HB.out | apply below_alloc | apply pw_below_drewN | apply below_drew1) | exact HB.out)) hb); clear HB; have HB := n0_; clear n0_; (try clear hb); (try clear hb2); (try clear hk); (try clear hi)) | ((with_reducible refine gate_callee (f := 24) rfl ?_); refine goesL_ (some 26) rfl rfl Star.func24 (by kernel_rfl) rfl #[.int .i64 a0, .slice A1 l1.length c1, .int .i64 t179] rfl (by (try simp only [List.map_toArray, List.map_cons, List.map_nil]); first | done | rfl | (simp only [List.length_drop, List.length_take]; rfl)) ?_; (with_reducible refine (eir_covers.calls k2 a0 _ _ l1 t179 true _ ?side1 ?side2 A23.out).mono ?_); (case side1 => repeat (first | exact (Kd.C_below HR1.out HB.out) | (with_reducible refine Kd.C_alloc ?_ _) | (with_reducible refine Kd.C_drewN ?_ _) | (with_reducible refine Kd.C_drew ?_))); (case side2 => exact HC1.out); rintro e w29 ⟨rfl, hb⟩; refine ⟨_, rfl, ?_⟩; have n0_ := Aside0.mk (below_step (by repeat (first | (with_reducible first | exact HB.out | apply below_alloc | apply pw_below_drewN | apply below_drew1) | exact HB.out)) hb); clear HB; have HB := n0_; clear n0_; (try clear hb); (try clear hb2); (try clear hk); (try clear hi)))
              go_roundg k2
              case measure => have := HK1.out; have := HK2.out; omega
              case rel => exact ⟨(ji27), (x20_2), (by first | rfl | (simp; done) | (simp only [← hji27] <;> (first | rfl | simp)) | (simp [*]; done)), (by first | rfl | (simp; done) | (simp [*]; done)), H', ⟨by have := HK1.out; have := HK2.out; omega⟩, ⟨by repeat (first | (with_reducible first | exact HB.out | apply below_alloc | apply pw_below_drewN | apply below_drew1) | exact HB.out)⟩⟩
             ·replace c26 := Bool.eq_false_iff.mpr c26
              subst c26
              have H1 : (eir_Solve.l1 k2 a0 l1 ji25 (mn x20_2 t179)) = some (r1, r2) := by rw [if_neg (show ¬ (false = true) by decide)] at H; exact H
              clear H
              have H := H1
              clear H1
              obtain ⟨ji30, hji30⟩ : ∃ j_ : Int, (mn x20_2 t179) = j_ := ⟨_, rfl⟩
              replace H : (eir_Solve.l1 k2 a0 l1 ji25 ji30) = some (r1, r2) := by first | (rw [hji30] at H; exact H) | (simp only [hji30] at H ⊢; exact H)
              (try rw [hji30] at A20)
              (try rw [hji30] at A21)
              (try rw [hji30] at A22)
              (try rw [hji30] at A23)
              have hji30_ : (if t179 < x20_2 then t179 else x20_2) = ji30 := hji30
              have H' := Aside0.mk H
              clear H
              go_wp2_with (first | ((with_reducible refine gate_callee (f := 52) rfl ?_); refine goesL_ (some 23) rfl rfl Star.func52 (by kernel_rfl) rfl #[.int .i64 x19_2, .int .i64 x20_2, .int .i64 1] rfl (by (try simp only [List.map_toArray, List.map_cons, List.map_nil]); first | done | rfl | (simp only [List.length_drop, List.length_take]; rfl)) ?_; (with_reducible refine (eir_third_int64.calls x19_2 x20_2 1 t178 _ A20.out).mono ?_); rintro e w' ⟨rfl, ⟨nd, rfl⟩⟩; refine ⟨_, rfl, ?_⟩) | ((with_reducible refine gate_callee (f := 52) rfl ?_); refine goesL_ (some 24) rfl rfl Star.func52 (by kernel_rfl) rfl #[.int .i64 x19_2, .int .i64 x20_2, .int .i64 2] rfl (by (try simp only [List.map_toArray, List.map_cons, List.map_nil]); first | done | rfl | (simp only [List.length_drop, List.length_take]; rfl)) ?_; (with_reducible refine (eir_third_int64.calls x19_2 x20_2 2 t179 _ A21.out).mono ?_); rintro e w' ⟨rfl, ⟨nd, rfl⟩⟩; refine ⟨_, rfl, ?_⟩) | ((with_reducible refine gate_callee (f := 24) rfl ?_); refine goesL_ (some 25) rfl rfl Star.func24 (by kernel_rfl) rfl #[.int .i64 a0, .slice A1 l1.length c1, .int .i64 t178] rfl (by (try simp only [List.map_toArray, List.map_cons, List.map_nil]); first | done | rfl | (simp only [List.length_drop, List.length_take]; rfl)) ?_; (with_reducible refine (eir_covers.calls k2 a0 _ _ l1 t178 true _ ?side1 ?side2 A22.out).mono ?_); (case side1 => repeat (first | exact (Kd.C_below HR1.out (by repeat (first | (with_reducible first | exact HB.out | apply below_alloc | apply pw_below_drewN | apply below_drew1) | exact HB.out))) | (with_reducible refine Kd.C_alloc ?_ _) | (with_reducible refine Kd.C_drewN ?_ _) | (with_reducible refine Kd.C_drew ?_))); (case side2 => exact HC1.out); rintro e w31 ⟨rfl, hb⟩; refine ⟨_, rfl, ?_⟩; have n0_ := Aside0.mk (below_step (by repeat (first | (with_reducible first | exact HB.out | apply below_alloc | apply pw_below_drewN | apply below_drew1) | exact HB.out)) hb); clear HB; have HB := n0_; clear n0_; (try clear hb); (try clear hb2); (try clear hk); (try clear hi)) | ((with_reducible refine gate_callee (f := 24) rfl ?_); refine goesL_ (some 26) rfl rfl Star.func24 (by kernel_rfl) rfl #[.int .i64 a0, .slice A1 l1.length c1, .int .i64 t179] rfl (by (try simp only [List.map_toArray, List.map_cons, List.map_nil]); first | done | rfl | (simp only [List.length_drop, List.length_take]; rfl)) ?_; (with_reducible refine (eir_covers.calls k2 a0 _ _ l1 t179 false _ ?side1 ?side2 A23.out).mono ?_); (case side1 => repeat (first | exact (Kd.C_below HR1.out HB.out) | (with_reducible refine Kd.C_alloc ?_ _) | (with_reducible refine Kd.C_drewN ?_ _) | (with_reducible refine Kd.C_drew ?_))); (case side2 => exact HC1.out); rintro e w32 ⟨rfl, hb⟩; refine ⟨_, rfl, ?_⟩; have n0_ := Aside0.mk (below_step (by repeat (first | (with_reducible first | exact HB.out | apply below_alloc | apply pw_below_drewN | apply below_drew1) | exact HB.out)) hb); clear HB; have HB := n0_; clear n0_; (try clear hb); (try clear hb2); (try clear hk); (try clear hi)))
              go_roundg k2
              case measure => have := HK1.out; have := HK2.out; omega
              case rel => exact ⟨(ji25), (ji30), (by first | rfl | (simp; done) | (simp only [← hji25] <;> (first | rfl | simp)) | (simp [*]; done)), (by first | rfl | (simp; done) | (simp only [← hji30] <;> (first | rfl | simp)) | (simp [*]; done)), H', ⟨by have := HK1.out; have := HK2.out; omega⟩, ⟨by repeat (first | (with_reducible first | exact HB.out | apply below_alloc | apply pw_below_drewN | apply below_drew1) | exact HB.out)⟩⟩
            ·replace c24 := Bool.eq_false_iff.mpr c24
             subst c24
             have H1 : (if t181 = true then (eir_Solve.l1 k2 a0 l1 (mx x19_2 t179) (mn x20_2 t178)) else (eir_Solve.l1 k2 a0 l1 x19_2 (mn (mn x20_2 t178) t179))) = some (r1, r2) := by rw [if_neg (show ¬ (false = true) by decide)] at H; exact H
             clear H
             have H := H1
             clear H1
             obtain ⟨ji33, hji33⟩ : ∃ j_ : Int, (mn x20_2 t178) = j_ := ⟨_, rfl⟩
             replace H : (if t181 = true then (eir_Solve.l1 k2 a0 l1 (mx x19_2 t179) ji33) else (eir_Solve.l1 k2 a0 l1 x19_2 (mn (ji33) t179))) = some (r1, r2) := by first | (rw [hji33] at H; exact H) | (simp only [hji33] at H ⊢; exact H)
             (try rw [hji33] at A20)
             (try rw [hji33] at A21)
             (try rw [hji33] at A22)
             (try rw [hji33] at A23)
             have hji33_ : (if t178 < x20_2 then t178 else x20_2) = ji33 := hji33
             by_cases c34 : t181 = true
             ·subst c34
              have H1 : (eir_Solve.l1 k2 a0 l1 (mx x19_2 t179) ji33) = some (r1, r2) := by rw [if_pos rfl] at H; exact H
              clear H
              have H := H1
              clear H1
              obtain ⟨ji35, hji35⟩ : ∃ j_ : Int, (mx x19_2 t179) = j_ := ⟨_, rfl⟩
              replace H : (eir_Solve.l1 k2 a0 l1 ji35 ji33) = some (r1, r2) := by first | (rw [hji35] at H; exact H) | (simp only [hji35] at H ⊢; exact H)
              (try rw [hji35] at A20)
              (try rw [hji35] at A21)
              (try rw [hji35] at A22)
              (try rw [hji35] at A23)
              have hji35_ : (if x19_2 < t179 then t179 else x19_2) = ji35 := hji35
              have H' := Aside0.mk H
              clear H
              go_wp2_with (first | ((with_reducible refine gate_callee (f := 52) rfl ?_); refine goesL_ (some 23) rfl rfl Star.func52 (by kernel_rfl) rfl #[.int .i64 x19_2, .int .i64 x20_2, .int .i64 1] rfl (by (try simp only [List.map_toArray, List.map_cons, List.map_nil]); first | done | rfl | (simp only [List.length_drop, List.length_take]; rfl)) ?_; (with_reducible refine (eir_third_int64.calls x19_2 x20_2 1 t178 _ A20.out).mono ?_); rintro e w' ⟨rfl, ⟨nd, rfl⟩⟩; refine ⟨_, rfl, ?_⟩) | ((with_reducible refine gate_callee (f := 52) rfl ?_); refine goesL_ (some 24) rfl rfl Star.func52 (by kernel_rfl) rfl #[.int .i64 x19_2, .int .i64 x20_2, .int .i64 2] rfl (by (try simp only [List.map_toArray, List.map_cons, List.map_nil]); first | done | rfl | (simp only [List.length_drop, List.length_take]; rfl)) ?_; (with_reducible refine (eir_third_int64.calls x19_2 x20_2 2 t179 _ A21.out).mono ?_); rintro e w' ⟨rfl, ⟨nd, rfl⟩⟩; refine ⟨_, rfl, ?_⟩) | ((with_reducible refine gate_callee (f := 24) rfl ?_); refine goesL_ (some 25) rfl rfl Star.func24 (by kernel_rfl) rfl #[.int .i64 a0, .slice A1 l1.length c1, .int .i64 t178] rfl (by (try simp only [List.map_toArray, List.map_cons, List.map_nil]); first | done | rfl | (simp only [List.length_drop, List.length_take]; rfl)) ?_; (with_reducible refine (eir_covers.calls k2 a0 _ _ l1 t178 false _ ?side1 ?side2 A22.out).mono ?_); (case side1 => repeat (first | exact (Kd.C_below HR1.out (by repeat (first | (with_reducible first | exact HB.out | apply below_alloc | apply pw_below_drewN | apply below_drew1) | exact HB.out))) | (with_reducible refine Kd.C_alloc ?_ _) | (with_reducible refine Kd.C_drewN ?_ _) | (with_reducible refine Kd.C_drew ?_))); (case side2 => exact HC1.out); rintro e w36 ⟨rfl, hb⟩; refine ⟨_, rfl, ?_⟩; have n0_ := Aside0.mk (below_step (by repeat (first | (with_reducible first | exact HB.out | apply below_alloc | apply pw_below_drewN | apply below_drew1) | exact HB.out)) hb); clear HB; have HB := n0_; clear n0_; (try clear hb); (try clear hb2); (try clear hk); (try clear hi)) | ((with_reducible refine gate_callee (f := 24) rfl ?_); refine goesL_ (some 26) rfl rfl Star.func24 (by kernel_rfl) rfl #[.int .i64 a0, .slice A1 l1.length c1, .int .i64 t179] rfl (by (try simp only [List.map_toArray, List.map_cons, List.map_nil]); first | done | rfl | (simp only [List.length_drop, List.length_take]; rfl)) ?_; (with_reducible refine (eir_covers.calls k2 a0 _ _ l1 t179 true _ ?side1 ?side2 A23.out).mono ?_); (case side1 => repeat (first | exact (Kd.C_below HR1.out HB.out) | (with_reducible refine Kd.C_alloc ?_ _) | (with_reducible refine Kd.C_drewN ?_ _) | (with_reducible refine Kd.C_drew ?_))); (case side2 => exact HC1.out); rintro e w37 ⟨rfl, hb⟩; refine ⟨_, rfl, ?_⟩; have n0_ := Aside0.mk (below_step (by repeat (first | (with_reducible first | exact HB.out | apply below_alloc | apply pw_below_drewN | apply below_drew1) | exact HB.out)) hb); clear HB; have HB := n0_; clear n0_; (try clear hb); (try clear hb2); (try clear hk); (try clear hi)))
              go_roundg k2
              case measure => have := HK1.out; have := HK2.out; omega
              case rel => exact ⟨(ji35), (ji33), (by first | rfl | (simp; done) | (simp only [← hji35] <;> (first | rfl | simp)) | (simp [*]; done)), (by first | rfl | (simp; done) | (simp only [← hji33] <;> (first | rfl | simp)) | (simp [*]; done)), H', ⟨by have := HK1.out; have := HK2.out; omega⟩, ⟨by repeat (first | (with_reducible first | exact HB.out | apply below_alloc | apply pw_below_drewN | apply below_drew1) | exact HB.out)⟩⟩
             ·replace c34 := Bool.eq_false_iff.mpr c34
              subst c34
              have H1 : (eir_Solve.l1 k2 a0 l1 x19_2 (mn (ji33) t179)) = some (r1, r2) := by rw [if_neg (show ¬ (false = true) by decide)] at H; exact H
              clear H
              have H := H1
              clear H1
              obtain ⟨ji38, hji38⟩ : ∃ j_ : Int, (mn (ji33) t179) = j_ := ⟨_, rfl⟩
              replace H : (eir_Solve.l1 k2 a0 l1 x19_2 ji38) = some (r1, r2) := by first | (rw [hji38] at H; exact H) | (simp only [hji38] at H ⊢; exact H)
              (try rw [hji38] at A20)
              (try rw [hji38] at A21)
              (try rw [hji38] at A22)
              (try rw [hji38] at A23)
              have hji38_ : (if t179 < (ji33) then t179 else (ji33)) = ji38 := hji38
              have H' := Aside0.mk H
              clear H
              go_wp2_with (first | ((with_reducible refine gate_callee (f := 52) rfl ?_); refine goesL_ (some 23) rfl rfl Star.func52 (by kernel_rfl) rfl #[.int .i64 x19_2, .int .i64 x20_2, .int .i64 1] rfl (by (try simp only [List.map_toArray, List.map_cons, List.map_nil]); first | done | rfl | (simp only [List.length_drop, List.length_take]; rfl)) ?_; (with_reducible refine (eir_third_int64.calls x19_2 x20_2 1 t178 _ A20.out).mono ?_); rintro e w' ⟨rfl, ⟨nd, rfl⟩⟩; refine ⟨_, rfl, ?_⟩) | ((with_reducible refine gate_callee (f := 52) rfl ?_); refine goesL_ (some 24) rfl rfl Star.func52 (by kernel_rfl) rfl #[.int .i64 x19_2, .int .i64 x20_2, .int .i64 2] rfl (by (try simp only [List.map_toArray, List.map_cons, List.map_nil]); first | done | rfl | (simp only [List.length_drop, List.length_take]; rfl)) ?_; (with_reducible refine (eir_third_int64.calls x19_2 x20_2 2 t179 _ A21.out).mono ?_); rintro e w' ⟨rfl, ⟨nd, rfl⟩⟩; refine ⟨_, rfl, ?_⟩) | ((with_reducible refine gate_callee (f := 24) rfl ?_); refine goesL_ (some 25) rfl rfl Star.func24 (by kernel_rfl) rfl #[.int .i64 a0, .slice A1 l1.length c1, .int .i64 t178] rfl (by (try simp only [List.map_toArray, List.map_cons, List.map_nil]); first | done | rfl | (simp only [List.length_drop, List.length_take]; rfl)) ?_; (with_reducible refine (eir_covers.calls k2 a0 _ _ l1 t178 false _ ?side1 ?side2 A22.out).mono ?_); (case side1 => repeat (first | exact (Kd.C_below HR1.out (by repeat (first | (with_reducible first | exact HB.out | apply below_alloc | apply pw_below_drewN | apply below_drew1) | exact HB.out))) | (with_reducible refine Kd.C_alloc ?_ _) | (with_reducible refine Kd.C_drewN ?_ _) | (with_reducible refine Kd.C_drew ?_))); (case side2 => exact HC1.out); rintro e w39 ⟨rfl, hb⟩; refine ⟨_, rfl, ?_⟩; have n0_ := Aside0.mk (below_step (by repeat (first | (with_reducible first | exact HB.out | apply below_alloc | apply pw_below_drewN | apply below_drew1) | exact HB.out)) hb); clear HB; have HB := n0_; clear n0_; (try clear hb); (try clear hb2); (try clear hk); (try clear hi)) | ((with_reducible refine gate_callee (f := 24) rfl ?_); refine goesL_ (some 26) rfl rfl Star.func24 (by kernel_rfl) rfl #[.int .i64 a0, .slice A1 l1.length c1, .int .i64 t179] rfl (by (try simp only [List.map_toArray, List.map_cons, List.map_nil]); first | done | rfl | (simp only [List.length_drop, List.length_take]; rfl)) ?_; (with_reducible refine (eir_covers.calls k2 a0 _ _ l1 t179 false _ ?side1 ?side2 A23.out).mono ?_); (case side1 => repeat (first | exact (Kd.C_below HR1.out HB.out) | (with_reducible refine Kd.C_alloc ?_ _) | (with_reducible refine Kd.C_drewN ?_ _) | (with_reducible refine Kd.C_drew ?_))); (case side2 => exact HC1.out); rintro e w40 ⟨rfl, hb⟩; refine ⟨_, rfl, ?_⟩; have n0_ := Aside0.mk (below_step (by repeat (first | (with_reducible first | exact HB.out | apply below_alloc | apply pw_below_drewN | apply below_drew1) | exact HB.out)) hb); clear HB; have HB := n0_; clear n0_; (try clear hb); (try clear hb2); (try clear hk); (try clear hi)))
              go_roundg k2
              case measure => have := HK1.out; have := HK2.out; omega
              case rel => exact ⟨(x19_2), (ji38), (by first | rfl | (simp; done) | (simp [*]; done)), (by first | rfl | (simp; done) | (simp only [← hji38] <;> (first | rfl | simp)) | (simp [*]; done)), H', ⟨by have := HK1.out; have := HK2.out; omega⟩, ⟨by repeat (first | (with_reducible first | exact HB.out | apply below_alloc | apply pw_below_drewN | apply below_drew1) | exact HB.out)⟩⟩
           ·rw [if_neg c19] at H
            have c19b0 : decide (3 < (wrap64 (x20_2 - x19_2))) = false := decide_eq_false c19
            clear c19
            have H' := Aside0.mk H
            clear H
            go_wp2
            go_loopg [19] k2 (fun kq v19 w' => ∃ (x19_3 : Int), v19 = .int .i64 x19_3 ∧ Aside0 (eir_Solve.l2 kq a0 l1 x19_3 x20_2 = some (r1, r2)) ∧ Aside0 (kq ≤ k2) ∧ Aside0 (Below w.heap.size w w'))
            case atStart => exact ⟨(x19_2), (by first | rfl | (simp; done) | (simp [*]; done)), H', ⟨Nat.le_refl _⟩, ⟨by repeat (first | (with_reducible first | exact HB.out | apply below_alloc | apply pw_below_drewN | apply below_drew1) | exact HB.out)⟩⟩
            case round =>
             clear H'
             try clear c1; try clear p1; try clear q1; try clear hx1; try clear c2; try clear p2; try clear c3; try clear c3b0; try clear c3b1; try clear c4; try clear c4b0; try clear c4b1; try clear c5; try clear c6; try clear c6b0; try clear p6; try clear c7; try clear c7b0; try clear c8; try clear c8b0; try clear c10; try clear c12; try clear c14; try clear p17; try clear q17; try clear hx17; try clear c19; try clear c19b0; try clear c22; try clear c24; try clear c26; try clear c34; try clear hx174_0; try clear p1; try clear p17; try clear p174; try clear p2; try clear p6; try clear q1; try clear q17; try clear q174
             obtain ⟨x19_3, rfl, HA, HK3, HB⟩ := hrel
             cases gk with
             | zero => exact absurd HA.out (by simp [eir_Solve.l2])
             | succ k3 =>
              have H := HA.out
              clear HA
              simp only [eir_Solve.l2] at H
              by_cases c41 : (wrap64 (x20_2 - x19_3)) > 1
              ·rw [if_pos c41] at H
               have c41b0 : decide (1 < (wrap64 (x20_2 - x19_3))) = true := decide_eq_true c41
               clear c41
               replace H := Option.bind_eq_some_iff.mp H
               obtain ⟨t182, A420, H⟩ := H
               replace H : (if t182 = true then (eir_Solve.l2 k3 a0 l1 (wrap64 (x19_3 + 1)) x20_2) else (some (x19_3, 0))) = some (r1, r2) := H
               have A42 := Aside0.mk A420
               clear A420
               by_cases c43 : t182 = true
               ·subst c43
                have H1 : (eir_Solve.l2 k3 a0 l1 (wrap64 (x19_3 + 1)) x20_2) = some (r1, r2) := by rw [if_pos rfl] at H; exact H
                clear H
                have H := H1
                clear H1
                have H' := Aside0.mk H
                clear H
                go_wp2_with (first | ((with_reducible refine gate_callee (f := 24) rfl ?_); refine goesL_ (some 34) rfl rfl Star.func24 (by kernel_rfl) rfl #[.int .i64 a0, .slice A1 l1.length c1, .int .i64 (wrap64 (x19_3 + 1))] rfl (by (try simp only [List.map_toArray, List.map_cons, List.map_nil]); first | done | rfl | (simp only [List.length_drop, List.length_take]; rfl)) ?_; (with_reducible refine (eir_covers.calls k3 a0 _ _ l1 (wrap64 (x19_3 + 1)) true _ ?side1 ?side2 A42.out).mono ?_); (case side1 => repeat (first | exact (Kd.C_below HR1.out HB.out) | (with_reducible refine Kd.C_alloc ?_ _) | (with_reducible refine Kd.C_drewN ?_ _) | (with_reducible refine Kd.C_drew ?_))); (case side2 => exact HC1.out); rintro e w44 ⟨rfl, hb⟩; refine ⟨_, rfl, ?_⟩; have n0_ := Aside0.mk (below_step (by repeat (first | (with_reducible first | exact HB.out | apply below_alloc | apply pw_below_drewN | apply below_drew1) | exact HB.out)) hb); clear HB; have HB := n0_; clear n0_; (try clear hb); (try clear hb2); (try clear hk); (try clear hi)))
                go_roundg k3
                case measure => have := HK1.out; have := HK2.out; have := HK3.out; omega
                case rel => exact ⟨(wrap64 (x19_3 + 1)), (by first | rfl | (simp; done) | (simp [*]; done)), H', ⟨by have := HK1.out; have := HK2.out; have := HK3.out; omega⟩, ⟨by repeat (first | (with_reducible first | exact HB.out | apply below_alloc | apply pw_below_drewN | apply below_drew1) | exact HB.out)⟩⟩
               ·replace c43 := Bool.eq_false_iff.mpr c43
                subst c43
                have H1 : (some (x19_3, 0)) = some (r1, r2) := by rw [if_neg (show ¬ (false = true) by decide)] at H; exact H
                clear H
                have H := H1
                clear H1
                simp only [Option.some.injEq, Prod.mk.injEq] at H
                obtain ⟨rfl, rfl⟩ := H
                go_wp2_with (first | ((with_reducible refine gate_callee (f := 24) rfl ?_); refine goesL_ (some 34) rfl rfl Star.func24 (by kernel_rfl) rfl #[.int .i64 a0, .slice A1 l1.length c1, .int .i64 (wrap64 (x19_3 + 1))] rfl (by (try simp only [List.map_toArray, List.map_cons, List.map_nil]); first | done | rfl | (simp only [List.length_drop, List.length_take]; rfl)) ?_; (with_reducible refine (eir_covers.calls k3 a0 _ _ l1 (wrap64 (x19_3 + 1)) false _ ?side1 ?side2 A42.out).mono ?_); (case side1 => repeat (first | exact (Kd.C_below HR1.out HB.out) | (with_reducible refine Kd.C_alloc ?_ _) | (with_reducible refine Kd.C_drewN ?_ _) | (with_reducible refine Kd.C_drew ?_))); (case side2 => exact HC1.out); rintro e w45 ⟨rfl, hb⟩; refine ⟨_, rfl, ?_⟩; have n0_ := Aside0.mk (below_step (by repeat (first | (with_reducible first | exact HB.out | apply below_alloc | apply pw_below_drewN | apply below_drew1) | exact HB.out)) hb); clear HB; have HB := n0_; clear n0_; (try clear hb); (try clear hb2); (try clear hk); (try clear hi)))
                go_ret2
                exact ⟨by first | rfl | (simp [errW_none, errW_some] <;> rfl) | (simp [*, errW_none, errW_some] <;> rfl), by repeat (first | (with_reducible first | exact HB.out | apply below_alloc | apply pw_below_drewN | apply below_drew1) | exact HB.out)⟩
              ·rw [if_neg c41] at H
               have c41b0 : decide (1 < (wrap64 (x20_2 - x19_3))) = false := decide_eq_false c41
               clear c41
               simp only [Option.some.injEq, Prod.mk.injEq] at H
               obtain ⟨rfl, rfl⟩ := H
               go_wp2
               go_ret2
               exact ⟨by first | rfl | (simp [errW_none, errW_some] <;> rfl) | (simp [*, errW_none, errW_some] <;> rfl), by repeat (first | (with_reducible first | exact HB.out | apply below_alloc | apply pw_below_drewN | apply below_drew1) | exact HB.out)⟩
       ·replace c12 := Bool.eq_false_iff.mpr c12
        subst c12
        have H1 : (some (0, 13)) = some (r1, r2) := by rw [if_neg (show ¬ (false = true) by decide)] at H; exact H
        clear H
        have H := H1
        clear H1
        simp only [Option.some.injEq, Prod.mk.injEq] at H
        obtain ⟨rfl, rfl⟩ := H
        go_wp2_with (first | ((with_reducible refine gate_callee (f := 22) rfl ?_); refine goesL_ (some 11) rfl rfl Star.func22 (by kernel_rfl) rfl #[.int .i64 a0, .slice A1 l1.length c1] rfl (by (try simp only [List.map_toArray, List.map_cons, List.map_nil]); first | done | rfl | (simp only [List.length_drop, List.length_take]; rfl)) ?_; (with_reducible refine (eir_may.calls k1 a0 _ _ l1 true _ ?side1 ?side2 A9.out).mono ?_); (case side1 => repeat (first | exact (Kd.C_below HR1.out HB.out) | (with_reducible refine Kd.C_alloc ?_ _) | (with_reducible refine Kd.C_drewN ?_ _) | (with_reducible refine Kd.C_drew ?_))); (case side2 => exact HC1.out); rintro e w' ⟨rfl, ⟨nd, rfl⟩⟩; refine ⟨_, rfl, ?_⟩) | ((with_reducible refine gate_callee (f := 24) rfl ?_); refine goesL_ (some 15) rfl rfl Star.func24 (by kernel_rfl) rfl #[.int .i64 a0, .slice A1 l1.length c1, .int .i64 (-990000000000)] rfl (by (try simp only [List.map_toArray, List.map_cons, List.map_nil]); first | done | rfl | (simp only [List.length_drop, List.length_take]; rfl)) ?_; (with_reducible refine (eir_covers.calls k1 a0 _ _ l1 (-990000000000) false _ ?side1 ?side2 A11.out).mono ?_); (case side1 => repeat (first | exact (Kd.C_below HR1.out (by repeat (first | (with_reducible first | exact HB.out | apply below_alloc | apply pw_below_drewN | apply below_drew1) | exact HB.out))) | (with_reducible refine Kd.C_alloc ?_ _) | (with_reducible refine Kd.C_drewN ?_ _) | (with_reducible refine Kd.C_drew ?_))); (case side2 => exact HC1.out); rintro e w46 ⟨rfl, hb⟩; refine ⟨_, rfl, ?_⟩; have n0_ := Aside0.mk (below_step (by repeat (first | (with_reducible first | exact HB.out | apply below_alloc | apply pw_below_drewN | apply below_drew1) | exact HB.out)) hb); clear HB; have HB := n0_; clear n0_; (try clear hb); (try clear hb2); (try clear hk); (try clear hi)))
        go_ret2
        exact ⟨by first | rfl | (simp [errW_none, errW_some] <;> rfl) | (simp [*, errW_none, errW_some] <;> rfl), by repeat (first | (with_reducible first | exact HB.out | apply below_alloc | apply pw_below_drewN | apply below_drew1) | exact HB.out)⟩
      ·replace c10 := Bool.eq_false_iff.mpr c10
       subst c10
       have H1 : (some (0, 2)) = some (r1, r2) := by rw [if_neg (show ¬ (false = true) by decide)] at H; exact H
       clear H
       have H := H1
       clear H1
       simp only [Option.some.injEq, Prod.mk.injEq] at H
       obtain ⟨rfl, rfl⟩ := H
       go_wp2_with (first | ((with_reducible refine gate_callee (f := 22) rfl ?_); refine goesL_ (some 11) rfl rfl Star.func22 (by kernel_rfl) rfl #[.int .i64 a0, .slice A1 l1.length c1] rfl (by (try simp only [List.map_toArray, List.map_cons, List.map_nil]); first | done | rfl | (simp only [List.length_drop, List.length_take]; rfl)) ?_; (with_reducible refine (eir_may.calls k1 a0 _ _ l1 false _ ?side1 ?side2 A9.out).mono ?_); (case side1 => repeat (first | exact (Kd.C_below HR1.out HB.out) | (with_reducible refine Kd.C_alloc ?_ _) | (with_reducible refine Kd.C_drewN ?_ _) | (with_reducible refine Kd.C_drew ?_))); (case side2 => exact HC1.out); rintro e w' ⟨rfl, ⟨nd, rfl⟩⟩; refine ⟨_, rfl, ?_⟩))
       go_ret2
       exact ⟨by first | rfl | (simp [errW_none, errW_some] <;> rfl) | (simp [*, errW_none, errW_some] <;> rfl), by repeat (first | (with_reducible first | exact HB.out | apply below_alloc | apply pw_below_drewN | apply below_drew1) | exact HB.out)⟩
  ·rw [if_neg c4] at H
   exact absurd H (by simp)
 ·rw [if_neg c3] at H
  exact absurd H (by simp)
end Go.Proofs.Ytjgleaakgbnjgaa.S
end

section
namespace Go.Proofs.Ytjgleaakgbnjgaa.S
open Go.RowKit Go.Proofs.YtjgleaakgbnjgaaW.PrintWords Go.Proofs.YtjgleaakgbnjgaaW.PrintLast Go.Proofs.YtjgleaakgbnjgaaW.PrintMore
attribute [local go_sem] max2_int min2_int max_two min_two max_three min_three max_four min_four
attribute [local go_sem] XWalk.cell2
def eir_Fits.f (k : Nat) (a0 : Int) (l1 : List Int) (a2 : Int) : Option (Bool) := (eir_may.f k a0 l1).bind fun t183 => (if t183 = true then ((rate_May.f a2).bind fun t184 => (if t184 = true then (if a2 < 10000000000000 then ((eir_covers.f k a0 l1 a2).bind fun t185 => (if t185 = true then ((eir_covers.f k a0 l1 (wrap64 (a2 + 1))).bind fun t186 => (some (!t186))) else (some false))) else (some false)) else (some false))) else (some false))
set_option maxHeartbeats 8000000 in
set_option maxRecDepth 100000 in
theorem eir_Fits.calls (k : Nat) (a0 : Int) (A1 : Option Addr) (c1 : Nat) (l1 : List Int) (a2 : Int) (r : Bool) (w : World) (hr1 : Kd.C (Kd.int .i64) w A1 l1.length l1) (hc1 : l1.length ≤ c1) (h : eir_Fits.f k a0 l1 a2 = some r) :
  Calls Star.prog 11 #[.int .i64 a0, .slice A1 l1.length c1, .int .i64 a2] w fun e w' => e = .returned (.bool r) ∧ Below w.heap.size w w' := by
 have HR1 := Aside0.mk hr1
 have HC1 := Aside0.mk hc1
 clear hr1 hc1
 have HB := Aside0.mk (Below.refl w.heap.size w)
 have H : ((eir_may.f k a0 l1).bind fun t183 => (if t183 = true then ((rate_May.f a2).bind fun t184 => (if t184 = true then (if a2 < 10000000000000 then ((eir_covers.f k a0 l1 a2).bind fun t185 => (if t185 = true then ((eir_covers.f k a0 l1 (wrap64 (a2 + 1))).bind fun t186 => (some (!t186))) else (some false))) else (some false)) else (some false))) else (some false))) = some r := h
 clear h
 replace H := Option.bind_eq_some_iff.mp H
 obtain ⟨t183, A40, H⟩ := H
 replace H : (if t183 = true then ((rate_May.f a2).bind fun t184 => (if t184 = true then (if a2 < 10000000000000 then ((eir_covers.f k a0 l1 a2).bind fun t185 => (if t185 = true then ((eir_covers.f k a0 l1 (wrap64 (a2 + 1))).bind fun t186 => (some (!t186))) else (some false))) else (some false)) else (some false))) else (some false)) = some r := H
 have A4 := Aside0.mk A40
 clear A40
 by_cases c5 : t183 = true
 ·subst c5
  have H1 : ((rate_May.f a2).bind fun t184 => (if t184 = true then (if a2 < 10000000000000 then ((eir_covers.f k a0 l1 a2).bind fun t185 => (if t185 = true then ((eir_covers.f k a0 l1 (wrap64 (a2 + 1))).bind fun t186 => (some (!t186))) else (some false))) else (some false)) else (some false))) = some r := by rw [if_pos rfl] at H; exact H
  clear H
  have H := H1
  clear H1
  replace H := Option.bind_eq_some_iff.mp H
  obtain ⟨t184, A60, H⟩ := H
  replace H : (if t184 = true then (if a2 < 10000000000000 then ((eir_covers.f k a0 l1 a2).bind fun t185 => (if t185 = true then ((eir_covers.f k a0 l1 (wrap64 (a2 + 1))).bind fun t186 => (some (!t186))) else (some false))) else (some false)) else (some false)) = some r := H
  have A6 := Aside0.mk A60
  clear A60
  by_cases c7 : t184 = true
  ·subst c7
   have H1 : (if a2 < 10000000000000 then ((eir_covers.f k a0 l1 a2).bind fun t185 => (if t185 = true then ((eir_covers.f k a0 l1 (wrap64 (a2 + 1))).bind fun t186 => (some (!t186))) else (some false))) else (some false)) = some r := by rw [if_pos rfl] at H; exact H
   clear H
   have H := H1
   clear H1
   by_cases c8 : a2 < 10000000000000
   ·rw [if_pos c8] at H
    have c8b0 : decide (a2 < 10000000000000) = true := decide_eq_true c8
    clear c8
    replace H := Option.bind_eq_some_iff.mp H
    obtain ⟨t185, A90, H⟩ := H
    replace H : (if t185 = true then ((eir_covers.f k a0 l1 (wrap64 (a2 + 1))).bind fun t186 => (some (!t186))) else (some false)) = some r := H
    have A9 := Aside0.mk A90
    clear A90
    by_cases c10 : t185 = true
    ·subst c10
     have H1 : ((eir_covers.f k a0 l1 (wrap64 (a2 + 1))).bind fun t186 => (some (!t186))) = some r := by rw [if_pos rfl] at H; exact H
     clear H
     have H := H1
     clear H1
     replace H := Option.bind_eq_some_iff.mp H
     obtain ⟨t186, A110, H⟩ := H
     replace H : (some (!t186)) = some r := H
     have A11 := Aside0.mk A110
     clear A110
     obtain rfl := Option.some.inj H
     go_enter Star.func11, Try.ntmps11
     go_wp2_with (first | ((with_reducible refine gate_callee (f := 22) rfl ?_); refine goesL_ (some 9) rfl rfl Star.func22 (by kernel_rfl) rfl #[.int .i64 a0, .slice A1 l1.length c1] rfl (by (try simp only [List.map_toArray, List.map_cons, List.map_nil]); first | done | rfl | (simp only [List.length_drop, List.length_take]; rfl)) ?_; (with_reducible refine (eir_may.calls k a0 _ _ l1 true _ ?side1 ?side2 A4.out).mono ?_); (case side1 => repeat (first | exact HR1.out | (with_reducible refine Kd.C_alloc ?_ _) | (with_reducible refine Kd.C_drewN ?_ _) | (with_reducible refine Kd.C_drew ?_))); (case side2 => exact HC1.out); rintro e w' ⟨rfl, ⟨nd, rfl⟩⟩; refine ⟨_, rfl, ?_⟩) | (go_at_call 26; (with_reducible refine (rate_May.calls a2 true _ A6.out).mono ?_); rintro e w' ⟨rfl, ⟨nd, rfl⟩⟩) | (go_at_call 24; (with_reducible refine (eir_covers.calls k a0 _ _ l1 a2 true _ ?side1 ?side2 A9.out).mono ?_); (case side1 => repeat (first | exact HR1.out | (with_reducible refine Kd.C_alloc ?_ _) | (with_reducible refine Kd.C_drewN ?_ _) | (with_reducible refine Kd.C_drew ?_))); (case side2 => exact HC1.out); rintro e w12 ⟨rfl, hb⟩; have n0_ := Aside0.mk (below_step (by repeat (first | (with_reducible first | exact HB.out | apply below_alloc | apply pw_below_drewN | apply below_drew1) | exact HB.out)) hb); clear HB; have HB := n0_; clear n0_; (try clear hb); (try clear hb2); (try clear hk); (try clear hi)) | (go_at_call 24; (with_reducible refine (eir_covers.calls k a0 _ _ l1 (wrap64 (a2 + 1)) t186 _ ?side1 ?side2 A11.out).mono ?_); (case side1 => repeat (first | exact (Kd.C_below HR1.out HB.out) | (with_reducible refine Kd.C_alloc ?_ _) | (with_reducible refine Kd.C_drewN ?_ _) | (with_reducible refine Kd.C_drew ?_))); (case side2 => exact HC1.out); rintro e w13 ⟨rfl, hb⟩; have n0_ := Aside0.mk (below_step (by repeat (first | (with_reducible first | exact HB.out | apply below_alloc | apply pw_below_drewN | apply below_drew1) | exact HB.out)) hb); clear HB; have HB := n0_; clear n0_; (try clear hb); (try clear hb2); (try clear hk); (try clear hi)))
     go_ret
     exact ⟨by first | rfl | (simp [errW_none, errW_some] <;> rfl) | (simp [*, errW_none, errW_some] <;> rfl), by repeat (first | (with_reducible first | exact HB.out | apply below_alloc | apply pw_below_drewN | apply below_drew1) | exact HB.out)⟩
    ·replace c10 := Bool.eq_false_iff.mpr c10
     subst c10
     have H1 : (some false) = some r := by rw [if_neg (show ¬ (false = true) by decide)] at H; exact H
     clear H
     have H := H1
     clear H1
     obtain rfl := Option.some.inj H
     go_enter Star.func11, Try.ntmps11
     go_wp2_with (first | ((with_reducible refine gate_callee (f := 22) rfl ?_); refine goesL_ (some 9) rfl rfl Star.func22 (by kernel_rfl) rfl #[.int .i64 a0, .slice A1 l1.length c1] rfl (by (try simp only [List.map_toArray, List.map_cons, List.map_nil]); first | done | rfl | (simp only [List.length_drop, List.length_take]; rfl)) ?_; (with_reducible refine (eir_may.calls k a0 _ _ l1 true _ ?side1 ?side2 A4.out).mono ?_); (case side1 => repeat (first | exact HR1.out | (with_reducible refine Kd.C_alloc ?_ _) | (with_reducible refine Kd.C_drewN ?_ _) | (with_reducible refine Kd.C_drew ?_))); (case side2 => exact HC1.out); rintro e w' ⟨rfl, ⟨nd, rfl⟩⟩; refine ⟨_, rfl, ?_⟩) | (go_at_call 26; (with_reducible refine (rate_May.calls a2 true _ A6.out).mono ?_); rintro e w' ⟨rfl, ⟨nd, rfl⟩⟩) | (go_at_call 24; (with_reducible refine (eir_covers.calls k a0 _ _ l1 a2 false _ ?side1 ?side2 A9.out).mono ?_); (case side1 => repeat (first | exact HR1.out | (with_reducible refine Kd.C_alloc ?_ _) | (with_reducible refine Kd.C_drewN ?_ _) | (with_reducible refine Kd.C_drew ?_))); (case side2 => exact HC1.out); rintro e w14 ⟨rfl, hb⟩; have n0_ := Aside0.mk (below_step (by repeat (first | (with_reducible first | exact HB.out | apply below_alloc | apply pw_below_drewN | apply below_drew1) | exact HB.out)) hb); clear HB; have HB := n0_; clear n0_; (try clear hb); (try clear hb2); (try clear hk); (try clear hi)))
     go_ret
     exact ⟨by first | rfl | (simp [errW_none, errW_some] <;> rfl) | (simp [*, errW_none, errW_some] <;> rfl), by repeat (first | (with_reducible first | exact HB.out | apply below_alloc | apply pw_below_drewN | apply below_drew1) | exact HB.out)⟩
   ·rw [if_neg c8] at H
    have c8b0 : decide (a2 < 10000000000000) = false := decide_eq_false c8
    clear c8
    obtain rfl := Option.some.inj H
    go_enter Star.func11, Try.ntmps11
    go_wp2_with (first | ((with_reducible refine gate_callee (f := 22) rfl ?_); refine goesL_ (some 9) rfl rfl Star.func22 (by kernel_rfl) rfl #[.int .i64 a0, .slice A1 l1.length c1] rfl (by (try simp only [List.map_toArray, List.map_cons, List.map_nil]); first | done | rfl | (simp only [List.length_drop, List.length_take]; rfl)) ?_; (with_reducible refine (eir_may.calls k a0 _ _ l1 true _ ?side1 ?side2 A4.out).mono ?_); (case side1 => repeat (first | exact HR1.out | (with_reducible refine Kd.C_alloc ?_ _) | (with_reducible refine Kd.C_drewN ?_ _) | (with_reducible refine Kd.C_drew ?_))); (case side2 => exact HC1.out); rintro e w' ⟨rfl, ⟨nd, rfl⟩⟩; refine ⟨_, rfl, ?_⟩) | (go_at_call 26; (with_reducible refine (rate_May.calls a2 true _ A6.out).mono ?_); rintro e w' ⟨rfl, ⟨nd, rfl⟩⟩))
    go_ret
    exact ⟨by first | rfl | (simp [errW_none, errW_some] <;> rfl) | (simp [*, errW_none, errW_some] <;> rfl), by repeat (first | (with_reducible first | exact HB.out | apply below_alloc | apply pw_below_drewN | apply below_drew1) | exact HB.out)⟩
  ·replace c7 := Bool.eq_false_iff.mpr c7
   subst c7
   have H1 : (some false) = some r := by rw [if_neg (show ¬ (false = true) by decide)] at H; exact H
   clear H
   have H := H1
   clear H1
   obtain rfl := Option.some.inj H
   go_enter Star.func11, Try.ntmps11
   go_wp2_with (first | ((with_reducible refine gate_callee (f := 22) rfl ?_); refine goesL_ (some 9) rfl rfl Star.func22 (by kernel_rfl) rfl #[.int .i64 a0, .slice A1 l1.length c1] rfl (by (try simp only [List.map_toArray, List.map_cons, List.map_nil]); first | done | rfl | (simp only [List.length_drop, List.length_take]; rfl)) ?_; (with_reducible refine (eir_may.calls k a0 _ _ l1 true _ ?side1 ?side2 A4.out).mono ?_); (case side1 => repeat (first | exact HR1.out | (with_reducible refine Kd.C_alloc ?_ _) | (with_reducible refine Kd.C_drewN ?_ _) | (with_reducible refine Kd.C_drew ?_))); (case side2 => exact HC1.out); rintro e w' ⟨rfl, ⟨nd, rfl⟩⟩; refine ⟨_, rfl, ?_⟩) | (go_at_call 26; (with_reducible refine (rate_May.calls a2 false _ A6.out).mono ?_); rintro e w' ⟨rfl, ⟨nd, rfl⟩⟩))
   go_ret
   exact ⟨by first | rfl | (simp [errW_none, errW_some] <;> rfl) | (simp [*, errW_none, errW_some] <;> rfl), by repeat (first | (with_reducible first | exact HB.out | apply below_alloc | apply pw_below_drewN | apply below_drew1) | exact HB.out)⟩
 ·replace c5 := Bool.eq_false_iff.mpr c5
  subst c5
  have H1 : (some false) = some r := by rw [if_neg (show ¬ (false = true) by decide)] at H; exact H
  clear H
  have H := H1
  clear H1
  obtain rfl := Option.some.inj H
  go_enter Star.func11, Try.ntmps11
  go_wp2_with (first | ((with_reducible refine gate_callee (f := 22) rfl ?_); refine goesL_ (some 9) rfl rfl Star.func22 (by kernel_rfl) rfl #[.int .i64 a0, .slice A1 l1.length c1] rfl (by (try simp only [List.map_toArray, List.map_cons, List.map_nil]); first | done | rfl | (simp only [List.length_drop, List.length_take]; rfl)) ?_; (with_reducible refine (eir_may.calls k a0 _ _ l1 false _ ?side1 ?side2 A4.out).mono ?_); (case side1 => repeat (first | exact HR1.out | (with_reducible refine Kd.C_alloc ?_ _) | (with_reducible refine Kd.C_drewN ?_ _) | (with_reducible refine Kd.C_drew ?_))); (case side2 => exact HC1.out); rintro e w' ⟨rfl, ⟨nd, rfl⟩⟩; refine ⟨_, rfl, ?_⟩))
  go_ret
  exact ⟨by first | rfl | (simp [errW_none, errW_some] <;> rfl) | (simp [*, errW_none, errW_some] <;> rfl), by repeat (first | (with_reducible first | exact HB.out | apply below_alloc | apply pw_below_drewN | apply below_drew1) | exact HB.out)⟩
end Go.Proofs.Ytjgleaakgbnjgaa.S
end

section
namespace Go.Proofs.Ytjgleaakgbnjgaa.S
open Go.RowKit Go.Proofs.YtjgleaakgbnjgaaW.PrintWords Go.Proofs.YtjgleaakgbnjgaaW.PrintLast Go.Proofs.YtjgleaakgbnjgaaW.PrintMore
attribute [local go_sem] max2_int min2_int max_two min_two max_three min_three max_four min_four
attribute [local go_sem] XWalk.cell2
def lombardlaw10_alive.f (k : Nat)  : Option (Bool) := (eir_Solve.f k 100 (([105] : List Int))).bind fun bt190 => ((eir_Solve.f k 1000 (([1] : List Int))).bind fun bt195 => (if bt190.2 = 0 then (if bt190.1 > 40000000000 then (if bt190.1 < 60000000000 then (if bt195.2 = 13 then ((eir_Fits.f k 100 (([105] : List Int)) bt190.1).bind fun t200 => (some t200)) else (some false)) else (some false)) else (some false)) else (some false)))
set_option maxHeartbeats 8000000 in
set_option maxRecDepth 100000 in
theorem lombardlaw10_alive.calls (k : Nat)  (r : Bool) (w : World) (h : lombardlaw10_alive.f k  = some r) :
  Calls Star.prog 9 #[] w fun e w' => e = .returned (.bool r) ∧ Below w.heap.size w w' := by
 have HB := Aside0.mk (Below.refl w.heap.size w)
 have H : ((eir_Solve.f k 100 (([105] : List Int))).bind fun bt190 => ((eir_Solve.f k 1000 (([1] : List Int))).bind fun bt195 => (if bt190.2 = 0 then (if bt190.1 > 40000000000 then (if bt190.1 < 60000000000 then (if bt195.2 = 13 then ((eir_Fits.f k 100 (([105] : List Int)) bt190.1).bind fun t200 => (some t200)) else (some false)) else (some false)) else (some false)) else (some false)))) = some r := h
 clear h
 obtain ⟨y187, hy187⟩ : ∃ y_ : List Int, y_ = (([105] : List Int)) := ⟨_, rfl⟩
 replace H : ((eir_Solve.f k 100 y187).bind fun bt190 => ((eir_Solve.f k 1000 (([1] : List Int))).bind fun bt195 => (if bt190.2 = 0 then (if bt190.1 > 40000000000 then (if bt190.1 < 60000000000 then (if bt195.2 = 13 then ((eir_Fits.f k 100 (([105] : List Int)) bt190.1).bind fun t200 => (some t200)) else (some false)) else (some false)) else (some false)) else (some false)))) = some r := by first | (rw [hy187]; with_reducible exact H) | (have H2_ := (Option.bind_some _ _).symm.trans H; rw [hy187]; with_reducible exact H2_) | (have H2_ := (Option.bind_some _ _).symm.trans H; with_reducible exact H2_) | with_reducible exact H | (rw [hy187]; exact H) | exact H
 have Ny187 := Aside0.mk hy187
 clear hy187
 replace H := Option.bind_eq_some_iff.mp H
 obtain ⟨⟨t190, t191⟩, A10, H⟩ := H
 replace H : ((eir_Solve.f k 1000 (([1] : List Int))).bind fun bt195 => (if t191 = 0 then (if t190 > 40000000000 then (if t190 < 60000000000 then (if bt195.2 = 13 then ((eir_Fits.f k 100 (([105] : List Int)) t190).bind fun t200 => (some t200)) else (some false)) else (some false)) else (some false)) else (some false))) = some r := H
 have A1 := Aside0.mk A10
 clear A10
 obtain ⟨y192, hy192⟩ : ∃ y_ : List Int, y_ = (([1] : List Int)) := ⟨_, rfl⟩
 replace H : ((eir_Solve.f k 1000 y192).bind fun bt195 => (if t191 = 0 then (if t190 > 40000000000 then (if t190 < 60000000000 then (if bt195.2 = 13 then ((eir_Fits.f k 100 (([105] : List Int)) t190).bind fun t200 => (some t200)) else (some false)) else (some false)) else (some false)) else (some false))) = some r := by first | (rw [hy192]; with_reducible exact H) | (have H2_ := (Option.bind_some _ _).symm.trans H; rw [hy192]; with_reducible exact H2_) | (have H2_ := (Option.bind_some _ _).symm.trans H; with_reducible exact H2_) | with_reducible exact H | (rw [hy192]; exact H) | exact H
 have Ny192 := Aside0.mk hy192
 clear hy192
 replace H := Option.bind_eq_some_iff.mp H
 obtain ⟨⟨t195, t196⟩, A20, H⟩ := H
 replace H : (if t191 = 0 then (if t190 > 40000000000 then (if t190 < 60000000000 then (if t196 = 13 then ((eir_Fits.f k 100 (([105] : List Int)) t190).bind fun t200 => (some t200)) else (some false)) else (some false)) else (some false)) else (some false)) = some r := H
 have A2 := Aside0.mk A20
 clear A20
 have HC3 := Aside0.mk H
 clear H
 go_enter Star.func9, Try.ntmps9
 go_upto_region 3 with (first | ((with_reducible refine gate_dst (N := 6) rfl ?_); (try (refine gate_guard (by rfl) ?_; dsimp only)); refine Kd.R_lit (Kd.int .i64) _ 2 ?hg (N := 6) ?hd (xs := ([105] : List Int)) (inner := [.int .i64 105]) (ok := fun _ => True) (okp := fun _ => True) ?hr ?hp (fun _ hk => hk) trivial (Below.refl _ _) (Nat.le_refl _) (by simp) ?_; (case hd => rfl); (case hg => rfl); (case hr => first | (go_simp; done) | (go_simp; rfl)); (case hp => exact (Reps.one (show Kd.M (Kd.int .i64) _ _ _ 105 [.int .i64 105] from rfl) (Reps.none _ _))); intro v188 w4 ho5 hb hg_ hnew_; clear hg_ hnew_; (first | rw [← Ny187.out] at ho5 | (simp only [Int.reduceToNat] at ho5; rw [← Ny187.out] at ho5)); have n0_ := Aside0.mk (Kd.R_lower ho5 (below_size (by repeat (first | (with_reducible first | exact HB.out | apply below_alloc | apply pw_below_drewN | apply below_drew1) | exact HB.out)))); have n1_ := Aside0.mk (below_step (by repeat (first | (with_reducible first | exact HB.out | apply below_alloc | apply pw_below_drewN | apply below_drew1) | exact HB.out)) hb); clear HB; have HO189 := n0_; have HB := n1_; clear n0_ n1_; clear hb ho5; obtain ⟨Ao6, co6, eo6⟩ := Kd.R_slice HO189.out; subst eo6) | ((with_reducible refine gate_callee (f := 10) rfl ?_); refine goesL_ (some 7) rfl rfl Star.func10 (by kernel_rfl) rfl #[.int .i64 100, .slice Ao6 y187.length co6] rfl (by (try simp only [List.map_toArray, List.map_cons, List.map_nil]); first | done | rfl | (simp only [List.length_drop, List.length_take]; rfl)) ?_; (with_reducible refine (eir_Solve.calls k 100 _ _ y187 t190 t191 _ ?side1 ?side2 A1.out).mono ?_); (case side1 => repeat (first | exact (Kd.R_reads' HO189.out).2.2 | (with_reducible refine Kd.C_alloc ?_ _) | (with_reducible refine Kd.C_drewN ?_ _) | (with_reducible refine Kd.C_drew ?_))); (case side2 => exact (Kd.R_reads' HO189.out).2.1); rintro e w7 ⟨rfl, hb⟩; refine ⟨_, rfl, ?_⟩; have n0_ := Aside0.mk (Kd.R_below (by (with_reducible repeat (first | apply Kd.R_alloc | apply Kd.R_drewN | apply Kd.R_drew)); exact HO189.out) hb); have n1_ := Aside0.mk (below_step (by repeat (first | (with_reducible first | exact HB.out | apply below_alloc | apply pw_below_drewN | apply below_drew1) | exact HB.out)) hb); clear HO189; clear HB; have HO189 := n0_; have HB := n1_; clear n0_ n1_; (try clear hb); (try clear hb2); (try clear hk); (try clear hi)) | ((with_reducible refine gate_dst (N := 11) rfl ?_); (try (refine gate_guard (by rfl) ?_; dsimp only)); refine Kd.R_lit (Kd.int .i64) _ 2 ?hg (N := 11) ?hd (xs := ([1] : List Int)) (inner := [.int .i64 1]) (ok := fun _ => True) (okp := fun _ => True) ?hr ?hp (fun _ hk => hk) trivial (Below.refl _ _) (Nat.le_refl _) (by simp) ?_; (case hd => rfl); (case hg => rfl); (case hr => first | (go_simp; done) | (go_simp; rfl)); (case hp => exact (Reps.one (show Kd.M (Kd.int .i64) _ _ _ 1 [.int .i64 1] from rfl) (Reps.none _ _))); intro v193 w8 ho9 hb hg_ hnew_; clear hg_ hnew_; (first | rw [← Ny192.out] at ho9 | (simp only [Int.reduceToNat] at ho9; rw [← Ny192.out] at ho9)); have n0_ := Aside0.mk (Kd.R_elder' (by (with_reducible repeat (first | apply Kd.R_alloc | apply Kd.R_drewN | apply Kd.R_drew)); exact HO189.out) (Kd.R_base ho9) hb); have n1_ := Aside0.mk (Kd.R_lower (Kd.R_new' ho9 (Kd.R_lt (by (with_reducible repeat (first | apply Kd.R_alloc | apply Kd.R_drewN | apply Kd.R_drew)); exact HO189.out))) (below_size (by repeat (first | (with_reducible first | exact HB.out | apply below_alloc | apply pw_below_drewN | apply below_drew1) | exact HB.out)))); have n2_ := Aside0.mk (below_step (by repeat (first | (with_reducible first | exact HB.out | apply below_alloc | apply pw_below_drewN | apply below_drew1) | exact HB.out)) hb); clear HO189; clear HB; have HO189 := n0_; have HO194 := n1_; have HB := n2_; clear n0_ n1_ n2_; clear hb ho9; obtain ⟨Ao10, co10, eo10⟩ := Kd.R_slice HO194.out; subst eo10) | ((with_reducible refine gate_callee (f := 10) rfl ?_); refine goesL_ (some 12) rfl rfl Star.func10 (by kernel_rfl) rfl #[.int .i64 1000, .slice Ao10 y192.length co10] rfl (by (try simp only [List.map_toArray, List.map_cons, List.map_nil]); first | done | rfl | (simp only [List.length_drop, List.length_take]; rfl)) ?_; (with_reducible refine (eir_Solve.calls k 1000 _ _ y192 t195 t196 _ ?side1 ?side2 A2.out).mono ?_); (case side1 => repeat (first | exact (Kd.R_reads' HO194.out).2.2 | (with_reducible refine Kd.C_alloc ?_ _) | (with_reducible refine Kd.C_drewN ?_ _) | (with_reducible refine Kd.C_drew ?_))); (case side2 => exact (Kd.R_reads' HO194.out).2.1); rintro e w11 ⟨rfl, hb⟩; refine ⟨_, rfl, ?_⟩; have n0_ := Aside0.mk (Kd.R_below (by (with_reducible repeat (first | apply Kd.R_alloc | apply Kd.R_drewN | apply Kd.R_drew)); exact HO189.out) hb); have n1_ := Aside0.mk (Kd.R_below (by (with_reducible repeat (first | apply Kd.R_alloc | apply Kd.R_drewN | apply Kd.R_drew)); exact HO194.out) hb); have n2_ := Aside0.mk (below_step (by repeat (first | (with_reducible first | exact HB.out | apply below_alloc | apply pw_below_drewN | apply below_drew1) | exact HB.out)) hb); clear HO189; clear HO194; clear HB; have HO189 := n0_; have HO194 := n1_; have HB := n2_; clear n0_ n1_ n2_; (try clear hb); (try clear hb2); (try clear hk); (try clear hi)))
 have H := HC3.out
 clear HC3
 by_cases c12 : t191 = 0
 ·rw [if_pos c12] at H
  have c12b0 : (t191 == 0) = true := beq_iff_eq.mpr c12
  have c12b1 : (t191 != 0) = false := bne_eq_false_iff_eq.mpr c12
  clear c12
  by_cases c13 : t190 > 40000000000
  ·rw [if_pos c13] at H
   have c13b0 : decide (40000000000 < t190) = true := decide_eq_true c13
   clear c13
   by_cases c14 : t190 < 60000000000
   ·rw [if_pos c14] at H
    have c14b0 : decide (t190 < 60000000000) = true := decide_eq_true c14
    clear c14
    by_cases c15 : t196 = 13
    ·rw [if_pos c15] at H
     have c15b0 : (t196 == 13) = true := beq_iff_eq.mpr c15
     have c15b1 : (t196 != 13) = false := bne_eq_false_iff_eq.mpr c15
     clear c15
     obtain ⟨y197, hy197⟩ : ∃ y_ : List Int, y_ = (([105] : List Int)) := ⟨_, rfl⟩
     replace H : ((eir_Fits.f k 100 y197 t190).bind fun t200 => (some t200)) = some r := by first | (rw [hy197]; with_reducible exact H) | (have H2_ := (Option.bind_some _ _).symm.trans H; rw [hy197]; with_reducible exact H2_) | (have H2_ := (Option.bind_some _ _).symm.trans H; with_reducible exact H2_) | with_reducible exact H | (rw [hy197]; exact H) | exact H
     have Ny197 := Aside0.mk hy197
     clear hy197
     replace H := Option.bind_eq_some_iff.mp H
     obtain ⟨t200, A160, H⟩ := H
     replace H : (some t200) = some r := H
     have A16 := Aside0.mk A160
     clear A160
     obtain rfl := Option.some.inj H
     go_wp2_with (first | ((with_reducible refine gate_dst (N := 30) rfl ?_); (try (refine gate_guard (by rfl) ?_; dsimp only)); refine Kd.R_lit (Kd.int .i64) _ 2 ?hg (N := 30) ?hd (xs := ([105] : List Int)) (inner := [.int .i64 105]) (ok := fun _ => True) (okp := fun _ => True) ?hr ?hp (fun _ hk => hk) trivial (Below.refl _ _) (Nat.le_refl _) (by simp) ?_; (case hd => rfl); (case hg => rfl); (case hr => first | (go_simp; done) | (go_simp; rfl)); (case hp => exact (Reps.one (show Kd.M (Kd.int .i64) _ _ _ 105 [.int .i64 105] from rfl) (Reps.none _ _))); intro v198 w17 ho18 hb hg_ hnew_; clear hg_ hnew_; (first | rw [← Ny197.out] at ho18 | (simp only [Int.reduceToNat] at ho18; rw [← Ny197.out] at ho18)); have n0_ := Aside0.mk (Kd.R_elder' (by (with_reducible repeat (first | apply Kd.R_alloc | apply Kd.R_drewN | apply Kd.R_drew)); exact HO189.out) (Kd.R_base ho18) hb); have n1_ := Aside0.mk (Kd.R_elder' (by (with_reducible repeat (first | apply Kd.R_alloc | apply Kd.R_drewN | apply Kd.R_drew)); exact HO194.out) (Kd.R_base ho18) hb); have n2_ := Aside0.mk (Kd.R_lower (Kd.R_new' (Kd.R_new' ho18 (Kd.R_lt (by (with_reducible repeat (first | apply Kd.R_alloc | apply Kd.R_drewN | apply Kd.R_drew)); exact HO189.out))) (Kd.R_lt (by (with_reducible repeat (first | apply Kd.R_alloc | apply Kd.R_drewN | apply Kd.R_drew)); exact HO194.out))) (below_size (by repeat (first | (with_reducible first | exact HB.out | apply below_alloc | apply pw_below_drewN | apply below_drew1) | exact HB.out)))); have n3_ := Aside0.mk (below_step (by repeat (first | (with_reducible first | exact HB.out | apply below_alloc | apply pw_below_drewN | apply below_drew1) | exact HB.out)) hb); clear HO189; clear HO194; clear HB; have HO189 := n0_; have HO194 := n1_; have HO199 := n2_; have HB := n3_; clear n0_ n1_ n2_ n3_; clear hb ho18; obtain ⟨Ao19, co19, eo19⟩ := Kd.R_slice HO199.out; subst eo19) | (go_at_call 11; (with_reducible refine (eir_Fits.calls k 100 _ _ y197 t190 t200 _ ?side1 ?side2 A16.out).mono ?_); (case side1 => repeat (first | exact (Kd.R_reads' HO199.out).2.2 | (with_reducible refine Kd.C_alloc ?_ _) | (with_reducible refine Kd.C_drewN ?_ _) | (with_reducible refine Kd.C_drew ?_))); (case side2 => exact (Kd.R_reads' HO199.out).2.1); rintro e w20 ⟨rfl, hb⟩; have n0_ := Aside0.mk (Kd.R_below (by (with_reducible repeat (first | apply Kd.R_alloc | apply Kd.R_drewN | apply Kd.R_drew)); exact HO189.out) hb); have n1_ := Aside0.mk (Kd.R_below (by (with_reducible repeat (first | apply Kd.R_alloc | apply Kd.R_drewN | apply Kd.R_drew)); exact HO194.out) hb); have n2_ := Aside0.mk (Kd.R_below (by (with_reducible repeat (first | apply Kd.R_alloc | apply Kd.R_drewN | apply Kd.R_drew)); exact HO199.out) hb); have n3_ := Aside0.mk (below_step (by repeat (first | (with_reducible first | exact HB.out | apply below_alloc | apply pw_below_drewN | apply below_drew1) | exact HB.out)) hb); clear HO189; clear HO194; clear HO199; clear HB; have HO189 := n0_; have HO194 := n1_; have HO199 := n2_; have HB := n3_; clear n0_ n1_ n2_ n3_; (try clear hb); (try clear hb2); (try clear hk); (try clear hi)))
     go_ret
     exact ⟨by first | rfl | (simp [errW_none, errW_some] <;> rfl) | (simp [*, errW_none, errW_some] <;> rfl), by repeat (first | (with_reducible first | exact HB.out | apply below_alloc | apply pw_below_drewN | apply below_drew1) | exact HB.out)⟩
    ·rw [if_neg c15] at H
     have c15b0 : (t196 == 13) = false := beq_eq_false_iff_ne.mpr c15
     have c15b1 : (t196 != 13) = true := bne_iff_ne.mpr c15
     obtain rfl := Option.some.inj H
     go_wp2
     go_ret
     exact ⟨by first | rfl | (simp [errW_none, errW_some] <;> rfl) | (simp [*, errW_none, errW_some] <;> rfl), by repeat (first | (with_reducible first | exact HB.out | apply below_alloc | apply pw_below_drewN | apply below_drew1) | exact HB.out)⟩
   ·rw [if_neg c14] at H
    have c14b0 : decide (t190 < 60000000000) = false := decide_eq_false c14
    clear c14
    obtain rfl := Option.some.inj H
    go_wp2
    go_ret
    exact ⟨by first | rfl | (simp [errW_none, errW_some] <;> rfl) | (simp [*, errW_none, errW_some] <;> rfl), by repeat (first | (with_reducible first | exact HB.out | apply below_alloc | apply pw_below_drewN | apply below_drew1) | exact HB.out)⟩
  ·rw [if_neg c13] at H
   have c13b0 : decide (40000000000 < t190) = false := decide_eq_false c13
   clear c13
   obtain rfl := Option.some.inj H
   go_wp2
   go_ret
   exact ⟨by first | rfl | (simp [errW_none, errW_some] <;> rfl) | (simp [*, errW_none, errW_some] <;> rfl), by repeat (first | (with_reducible first | exact HB.out | apply below_alloc | apply pw_below_drewN | apply below_drew1) | exact HB.out)⟩
 ·rw [if_neg c12] at H
  have c12b0 : (t191 == 0) = false := beq_eq_false_iff_ne.mpr c12
  have c12b1 : (t191 != 0) = true := bne_iff_ne.mpr c12
  obtain rfl := Option.some.inj H
  go_wp2
  go_ret
  exact ⟨by first | rfl | (simp [errW_none, errW_some] <;> rfl) | (simp [*, errW_none, errW_some] <;> rfl), by repeat (first | (with_reducible first | exact HB.out | apply below_alloc | apply pw_below_drewN | apply below_drew1) | exact HB.out)⟩
end Go.Proofs.Ytjgleaakgbnjgaa.S
end

section
namespace Go.Proofs.Ytjgleaakgbnjgaa.S
open Go.RowKit Go.Proofs.YtjgleaakgbnjgaaW.PrintWords Go.Proofs.YtjgleaakgbnjgaaW.PrintLast Go.Proofs.YtjgleaakgbnjgaaW.PrintMore
attribute [local go_sem] max2_int min2_int max_two min_two max_three min_three max_four min_four
attribute [local go_sem] XWalk.cell2
def lombardlaw10_EirFits.j0 : Nat → Int → List Int → Int → Int → Bool → Option (Bool)
 | 0, _, _, _, _, _ => none
 | k + 1, x0, x1, x2, x7, x73 => if x73 = true then (some false) else ((eir_Fits.f k x0 x1 x7).bind fun t209 => (if t209 = true then (if x2 = 0 then (some true) else ((eir_Fits.f k x0 x1 (wrap64 (x7 + (Int.tmod x2 1000000)))).bind fun t210 => (if t210 = true then (some ((Int.tmod x2 1000000) == 0)) else (some true)))) else (some false)))
def lombardlaw10_EirFits.f (k : Nat) (a0 : Int) (l1 : List Int) (a2 : Int) : Option (Bool) := (lombardlaw10_alive.f k).bind fun t201 => (if t201 = true then (if (l1.length : Int) > 60 then (some true) else ((eir_Solve.f k a0 l1).bind fun bt202 => (if bt202.2 = 0 then ((value_Fine.f k l1 bt202.1).bind fun bt205 => ((value_Fine.f k l1 (wrap64 (bt202.1 + 1))).bind fun bt207 => (if bt205.2 = 0 then (if bt205.1 < (wrap64 (1000 * a0)) then (lombardlaw10_EirFits.j0 k a0 l1 a2 bt202.1 true) else (if bt207.2 = 0 then (lombardlaw10_EirFits.j0 k a0 l1 a2 bt202.1 (decide (bt207.1 ≥ (wrap64 (1000 * a0))))) else (lombardlaw10_EirFits.j0 k a0 l1 a2 bt202.1 true))) else (if bt205.2 = 3 then (if bt207.2 = 0 then (lombardlaw10_EirFits.j0 k a0 l1 a2 bt202.1 (decide (bt207.1 ≥ (wrap64 (1000 * a0))))) else (lombardlaw10_EirFits.j0 k a0 l1 a2 bt202.1 true)) else (lombardlaw10_EirFits.j0 k a0 l1 a2 bt202.1 true))))) else (if bt202.1 = 0 then ((eir_Fits.f k a0 l1 a2).bind fun t204 => (some (!t204))) else (some false))))) else (some false))
set_option maxHeartbeats 8000000 in
set_option maxRecDepth 100000 in
theorem lombardlaw10_EirFits.calls (k : Nat) (a0 : Int) (A1 : Option Addr) (c1 : Nat) (l1 : List Int) (a2 : Int) (r : Bool) (w : World) (hr1 : Kd.C (Kd.int .i64) w A1 l1.length l1) (hc1 : l1.length ≤ c1) (h : lombardlaw10_EirFits.f k a0 l1 a2 = some r) :
  Calls Star.prog 3 #[.int .i64 a0, .slice A1 l1.length c1, .int .i64 a2] w fun e w' => e = .returned (.bool r) ∧ Below w.heap.size w w' := by
 have HR1 := Aside0.mk hr1
 have HC1 := Aside0.mk hc1
 clear hr1 hc1
 have HB := Aside0.mk (Below.refl w.heap.size w)
 have H : ((lombardlaw10_alive.f k).bind fun t201 => (if t201 = true then (if (l1.length : Int) > 60 then (some true) else ((eir_Solve.f k a0 l1).bind fun bt202 => (if bt202.2 = 0 then ((value_Fine.f k l1 bt202.1).bind fun bt205 => ((value_Fine.f k l1 (wrap64 (bt202.1 + 1))).bind fun bt207 => (if bt205.2 = 0 then (if bt205.1 < (wrap64 (1000 * a0)) then (lombardlaw10_EirFits.j0 k a0 l1 a2 bt202.1 true) else (if bt207.2 = 0 then (lombardlaw10_EirFits.j0 k a0 l1 a2 bt202.1 (decide (bt207.1 ≥ (wrap64 (1000 * a0))))) else (lombardlaw10_EirFits.j0 k a0 l1 a2 bt202.1 true))) else (if bt205.2 = 3 then (if bt207.2 = 0 then (lombardlaw10_EirFits.j0 k a0 l1 a2 bt202.1 (decide (bt207.1 ≥ (wrap64 (1000 * a0))))) else (lombardlaw10_EirFits.j0 k a0 l1 a2 bt202.1 true)) else (lombardlaw10_EirFits.j0 k a0 l1 a2 bt202.1 true))))) else (if bt202.1 = 0 then ((eir_Fits.f k a0 l1 a2).bind fun t204 => (some (!t204))) else (some false))))) else (some false))) = some r := h
 clear h
 replace H := Option.bind_eq_some_iff.mp H
 obtain ⟨t201, A40, H⟩ := H
 replace H : (if t201 = true then (if (l1.length : Int) > 60 then (some true) else ((eir_Solve.f k a0 l1).bind fun bt202 => (if bt202.2 = 0 then ((value_Fine.f k l1 bt202.1).bind fun bt205 => ((value_Fine.f k l1 (wrap64 (bt202.1 + 1))).bind fun bt207 => (if bt205.2 = 0 then (if bt205.1 < (wrap64 (1000 * a0)) then (lombardlaw10_EirFits.j0 k a0 l1 a2 bt202.1 true) else (if bt207.2 = 0 then (lombardlaw10_EirFits.j0 k a0 l1 a2 bt202.1 (decide (bt207.1 ≥ (wrap64 (1000 * a0))))) else (lombardlaw10_EirFits.j0 k a0 l1 a2 bt202.1 true))) else (if bt205.2 = 3 then (if bt207.2 = 0 then (lombardlaw10_EirFits.j0 k a0 l1 a2 bt202.1 (decide (bt207.1 ≥ (wrap64 (1000 * a0))))) else (lombardlaw10_EirFits.j0 k a0 l1 a2 bt202.1 true)) else (lombardlaw10_EirFits.j0 k a0 l1 a2 bt202.1 true))))) else (if bt202.1 = 0 then ((eir_Fits.f k a0 l1 a2).bind fun t204 => (some (!t204))) else (some false))))) else (some false)) = some r := H
 have A4 := Aside0.mk A40
 clear A40
 by_cases c5 : t201 = true
 ·subst c5
  have H1 : (if (l1.length : Int) > 60 then (some true) else ((eir_Solve.f k a0 l1).bind fun bt202 => (if bt202.2 = 0 then ((value_Fine.f k l1 bt202.1).bind fun bt205 => ((value_Fine.f k l1 (wrap64 (bt202.1 + 1))).bind fun bt207 => (if bt205.2 = 0 then (if bt205.1 < (wrap64 (1000 * a0)) then (lombardlaw10_EirFits.j0 k a0 l1 a2 bt202.1 true) else (if bt207.2 = 0 then (lombardlaw10_EirFits.j0 k a0 l1 a2 bt202.1 (decide (bt207.1 ≥ (wrap64 (1000 * a0))))) else (lombardlaw10_EirFits.j0 k a0 l1 a2 bt202.1 true))) else (if bt205.2 = 3 then (if bt207.2 = 0 then (lombardlaw10_EirFits.j0 k a0 l1 a2 bt202.1 (decide (bt207.1 ≥ (wrap64 (1000 * a0))))) else (lombardlaw10_EirFits.j0 k a0 l1 a2 bt202.1 true)) else (lombardlaw10_EirFits.j0 k a0 l1 a2 bt202.1 true))))) else (if bt202.1 = 0 then ((eir_Fits.f k a0 l1 a2).bind fun t204 => (some (!t204))) else (some false))))) = some r := by rw [if_pos rfl] at H; exact H
  clear H
  have H := H1
  clear H1
  by_cases c6 : (l1.length : Int) > 60
  ·rw [if_pos c6] at H
   have c6b0 : decide (60 < (l1.length : Int)) = true := decide_eq_true c6
   have c6b1 : decide (60 < l1.length) = true := decide_eq_true (by omega)
   clear c6
   obtain rfl := Option.some.inj H
   go_enter Star.func3, Try.ntmps3
   go_wp2_with (first | ((with_reducible refine gate_callee (f := 9) rfl ?_); refine goesL_ (some 13) rfl rfl Star.func9 (by kernel_rfl) rfl #[] rfl (by (try simp only [List.map_toArray, List.map_cons, List.map_nil]); first | done | rfl | (simp only [List.length_drop, List.length_take]; rfl)) ?_; (with_reducible refine (lombardlaw10_alive.calls k  true _ A4.out).mono ?_); rintro e w7 ⟨rfl, hb⟩; refine ⟨_, rfl, ?_⟩; have n0_ := Aside0.mk (below_step (by repeat (first | (with_reducible first | exact HB.out | apply below_alloc | apply pw_below_drewN | apply below_drew1) | exact HB.out)) hb); clear HB; have HB := n0_; clear n0_; (try clear hb); (try clear hb2); (try clear hk); (try clear hi)))
   go_ret
   exact ⟨by first | rfl | (simp [errW_none, errW_some] <;> rfl) | (simp [*, errW_none, errW_some] <;> rfl), by repeat (first | (with_reducible first | exact HB.out | apply below_alloc | apply pw_below_drewN | apply below_drew1) | exact HB.out)⟩
  ·rw [if_neg c6] at H
   have c6b0 : decide (60 < (l1.length : Int)) = false := decide_eq_false c6
   have c6b1 : decide (60 < l1.length) = false := decide_eq_false (by omega)
   clear c6
   replace H := Option.bind_eq_some_iff.mp H
   obtain ⟨⟨t202, t203⟩, A80, H⟩ := H
   replace H : (if t203 = 0 then ((value_Fine.f k l1 t202).bind fun bt205 => ((value_Fine.f k l1 (wrap64 (t202 + 1))).bind fun bt207 => (if bt205.2 = 0 then (if bt205.1 < (wrap64 (1000 * a0)) then (lombardlaw10_EirFits.j0 k a0 l1 a2 t202 true) else (if bt207.2 = 0 then (lombardlaw10_EirFits.j0 k a0 l1 a2 t202 (decide (bt207.1 ≥ (wrap64 (1000 * a0))))) else (lombardlaw10_EirFits.j0 k a0 l1 a2 t202 true))) else (if bt205.2 = 3 then (if bt207.2 = 0 then (lombardlaw10_EirFits.j0 k a0 l1 a2 t202 (decide (bt207.1 ≥ (wrap64 (1000 * a0))))) else (lombardlaw10_EirFits.j0 k a0 l1 a2 t202 true)) else (lombardlaw10_EirFits.j0 k a0 l1 a2 t202 true))))) else (if t202 = 0 then ((eir_Fits.f k a0 l1 a2).bind fun t204 => (some (!t204))) else (some false))) = some r := H
   have A8 := Aside0.mk A80
   clear A80
   by_cases c9 : t203 = 0
   ·rw [if_pos c9] at H
    have c9b0 : (t203 == 0) = true := beq_iff_eq.mpr c9
    have c9b1 : (t203 != 0) = false := bne_eq_false_iff_eq.mpr c9
    clear c9
    replace H := Option.bind_eq_some_iff.mp H
    obtain ⟨⟨t205, t206⟩, A100, H⟩ := H
    replace H : ((value_Fine.f k l1 (wrap64 (t202 + 1))).bind fun bt207 => (if t206 = 0 then (if t205 < (wrap64 (1000 * a0)) then (lombardlaw10_EirFits.j0 k a0 l1 a2 t202 true) else (if bt207.2 = 0 then (lombardlaw10_EirFits.j0 k a0 l1 a2 t202 (decide (bt207.1 ≥ (wrap64 (1000 * a0))))) else (lombardlaw10_EirFits.j0 k a0 l1 a2 t202 true))) else (if t206 = 3 then (if bt207.2 = 0 then (lombardlaw10_EirFits.j0 k a0 l1 a2 t202 (decide (bt207.1 ≥ (wrap64 (1000 * a0))))) else (lombardlaw10_EirFits.j0 k a0 l1 a2 t202 true)) else (lombardlaw10_EirFits.j0 k a0 l1 a2 t202 true)))) = some r := H
    have A10 := Aside0.mk A100
    clear A100
    replace H := Option.bind_eq_some_iff.mp H
    obtain ⟨⟨t207, t208⟩, A110, H⟩ := H
    replace H : (if t206 = 0 then (if t205 < (wrap64 (1000 * a0)) then (lombardlaw10_EirFits.j0 k a0 l1 a2 t202 true) else (if t208 = 0 then (lombardlaw10_EirFits.j0 k a0 l1 a2 t202 (decide (t207 ≥ (wrap64 (1000 * a0))))) else (lombardlaw10_EirFits.j0 k a0 l1 a2 t202 true))) else (if t206 = 3 then (if t208 = 0 then (lombardlaw10_EirFits.j0 k a0 l1 a2 t202 (decide (t207 ≥ (wrap64 (1000 * a0))))) else (lombardlaw10_EirFits.j0 k a0 l1 a2 t202 true)) else (lombardlaw10_EirFits.j0 k a0 l1 a2 t202 true))) = some r := H
    have A11 := Aside0.mk A110
    clear A110
    have HC12 := Aside0.mk H
    clear H
    go_enter Star.func3, Try.ntmps3
    go_upto_region 10 with (first | ((with_reducible refine gate_callee (f := 9) rfl ?_); refine goesL_ (some 13) rfl rfl Star.func9 (by kernel_rfl) rfl #[] rfl (by (try simp only [List.map_toArray, List.map_cons, List.map_nil]); first | done | rfl | (simp only [List.length_drop, List.length_take]; rfl)) ?_; (with_reducible refine (lombardlaw10_alive.calls k  true _ A4.out).mono ?_); rintro e w13 ⟨rfl, hb⟩; refine ⟨_, rfl, ?_⟩; have n0_ := Aside0.mk (below_step (by repeat (first | (with_reducible first | exact HB.out | apply below_alloc | apply pw_below_drewN | apply below_drew1) | exact HB.out)) hb); clear HB; have HB := n0_; clear n0_; (try clear hb); (try clear hb2); (try clear hk); (try clear hi)) | ((with_reducible refine gate_callee (f := 10) rfl ?_); refine goesL_ (some 21) rfl rfl Star.func10 (by kernel_rfl) rfl #[.int .i64 a0, .slice A1 l1.length c1] rfl (by (try simp only [List.map_toArray, List.map_cons, List.map_nil]); first | done | rfl | (simp only [List.length_drop, List.length_take]; rfl)) ?_; (with_reducible refine (eir_Solve.calls k a0 _ _ l1 t202 t203 _ ?side1 ?side2 A8.out).mono ?_); (case side1 => repeat (first | exact (Kd.C_below HR1.out HB.out) | (with_reducible refine Kd.C_alloc ?_ _) | (with_reducible refine Kd.C_drewN ?_ _) | (with_reducible refine Kd.C_drew ?_))); (case side2 => exact HC1.out); rintro e w14 ⟨rfl, hb⟩; refine ⟨_, rfl, ?_⟩; have n0_ := Aside0.mk (below_step (by repeat (first | (with_reducible first | exact HB.out | apply below_alloc | apply pw_below_drewN | apply below_drew1) | exact HB.out)) hb); clear HB; have HB := n0_; clear n0_; (try clear hb); (try clear hb2); (try clear hk); (try clear hi)) | ((with_reducible refine gate_callee (f := 12) rfl ?_); refine goesL_ (some 38) rfl rfl Star.func12 (by kernel_rfl) rfl #[.slice A1 l1.length c1, .int .i64 t202] rfl (by (try simp only [List.map_toArray, List.map_cons, List.map_nil]); first | done | rfl | (simp only [List.length_drop, List.length_take]; rfl)) ?_; (with_reducible refine (value_Fine.calls k _ _ l1 t202 t205 t206 _ ?side1 ?side2 A10.out).mono ?_); (case side1 => repeat (first | exact (Kd.C_below HR1.out HB.out) | (with_reducible refine Kd.C_alloc ?_ _) | (with_reducible refine Kd.C_drewN ?_ _) | (with_reducible refine Kd.C_drew ?_))); (case side2 => exact HC1.out); rintro e w15 ⟨rfl, hb⟩; refine ⟨_, rfl, ?_⟩; have n0_ := Aside0.mk (below_step (by repeat (first | (with_reducible first | exact HB.out | apply below_alloc | apply pw_below_drewN | apply below_drew1) | exact HB.out)) hb); clear HB; have HB := n0_; clear n0_; (try clear hb); (try clear hb2); (try clear hk); (try clear hi)) | ((with_reducible refine gate_callee (f := 12) rfl ?_); refine goesL_ (some 45) rfl rfl Star.func12 (by kernel_rfl) rfl #[.slice A1 l1.length c1, .int .i64 (wrap64 (t202 + 1))] rfl (by (try simp only [List.map_toArray, List.map_cons, List.map_nil]); first | done | rfl | (simp only [List.length_drop, List.length_take]; rfl)) ?_; (with_reducible refine (value_Fine.calls k _ _ l1 (wrap64 (t202 + 1)) t207 t208 _ ?side1 ?side2 A11.out).mono ?_); (case side1 => repeat (first | exact (Kd.C_below HR1.out HB.out) | (with_reducible refine Kd.C_alloc ?_ _) | (with_reducible refine Kd.C_drewN ?_ _) | (with_reducible refine Kd.C_drew ?_))); (case side2 => exact HC1.out); rintro e w16 ⟨rfl, hb⟩; refine ⟨_, rfl, ?_⟩; have n0_ := Aside0.mk (below_step (by repeat (first | (with_reducible first | exact HB.out | apply below_alloc | apply pw_below_drewN | apply below_drew1) | exact HB.out)) hb); clear HB; have HB := n0_; clear n0_; (try clear hb); (try clear hb2); (try clear hk); (try clear hi)))
    (try simp only [Act.put, List.setIfInBounds_toArray, List.set_cons_zero, List.set_cons_succ])
    go_cut [73] (fun v73 wc => ∃ (kq : Nat) (x73_11 : Bool), v73 = .bool x73_11 ∧ Aside0 (lombardlaw10_EirFits.j0 kq a0 l1 a2 t202 x73_11 = some r) ∧ Aside0 (kq ≤ k) ∧ Aside0 (Below w.heap.size w wc))
    case first =>
     have H := HC12.out
     clear HC12
     by_cases c17 : t206 = 0
     ·rw [if_pos c17] at H
      have c17b0 : (t206 == 0) = true := beq_iff_eq.mpr c17
      have c17b1 : (t206 != 0) = false := bne_eq_false_iff_eq.mpr c17
      clear c17
      (first | rw [c17b0] | (simp only [i64_w, i32_w]; rw [c17b0]) | skip)
      by_cases c18 : t205 < (wrap64 (1000 * a0))
      ·rw [if_pos c18] at H
       have c18b0 : decide (t205 < (wrap64 (1000 * a0))) = true := decide_eq_true c18
       clear c18
       have H' := Aside0.mk H
       clear H
       go_wp2
       go_meet
       case rel => exact ⟨_, (true), (by first | rfl | (simp; done) | (simp [*]; done)), H', ⟨by first | omega | exact Nat.le_refl _⟩, ⟨by repeat (first | (with_reducible first | exact HB.out | apply below_alloc | apply pw_below_drewN | apply below_drew1) | exact HB.out)⟩⟩
      ·rw [if_neg c18] at H
       have c18b0 : decide (t205 < (wrap64 (1000 * a0))) = false := decide_eq_false c18
       clear c18
       by_cases c19 : t208 = 0
       ·rw [if_pos c19] at H
        have c19b0 : (t208 == 0) = true := beq_iff_eq.mpr c19
        have c19b1 : (t208 != 0) = false := bne_eq_false_iff_eq.mpr c19
        clear c19
        have H' := Aside0.mk H
        clear H
        go_wp2
        go_meet
        case rel => exact ⟨_, (decide (t207 ≥ (wrap64 (1000 * a0)))), (by first | rfl | (simp; done) | (simp [*]; done)), H', ⟨by first | omega | exact Nat.le_refl _⟩, ⟨by repeat (first | (with_reducible first | exact HB.out | apply below_alloc | apply pw_below_drewN | apply below_drew1) | exact HB.out)⟩⟩
       ·rw [if_neg c19] at H
        have c19b0 : (t208 == 0) = false := beq_eq_false_iff_ne.mpr c19
        have c19b1 : (t208 != 0) = true := bne_iff_ne.mpr c19
        have H' := Aside0.mk H
        clear H
        go_wp2
        go_meet
        case rel => exact ⟨_, (true), (by first | rfl | (simp; done) | (simp [*]; done)), H', ⟨by first | omega | exact Nat.le_refl _⟩, ⟨by repeat (first | (with_reducible first | exact HB.out | apply below_alloc | apply pw_below_drewN | apply below_drew1) | exact HB.out)⟩⟩
     ·rw [if_neg c17] at H
      have c17b0 : (t206 == 0) = false := beq_eq_false_iff_ne.mpr c17
      have c17b1 : (t206 != 0) = true := bne_iff_ne.mpr c17
      (first | rw [c17b0] | (simp only [i64_w, i32_w]; rw [c17b0]) | skip)
      by_cases c20 : t206 = 3
      ·rw [if_pos c20] at H
       have c20b0 : (t206 == 3) = true := beq_iff_eq.mpr c20
       have c20b1 : (t206 != 3) = false := bne_eq_false_iff_eq.mpr c20
       clear c20
       by_cases c21 : t208 = 0
       ·rw [if_pos c21] at H
        have c21b0 : (t208 == 0) = true := beq_iff_eq.mpr c21
        have c21b1 : (t208 != 0) = false := bne_eq_false_iff_eq.mpr c21
        clear c21
        have H' := Aside0.mk H
        clear H
        go_wp2
        go_meet
        case rel => exact ⟨_, (decide (t207 ≥ (wrap64 (1000 * a0)))), (by first | rfl | (simp; done) | (simp [*]; done)), H', ⟨by first | omega | exact Nat.le_refl _⟩, ⟨by repeat (first | (with_reducible first | exact HB.out | apply below_alloc | apply pw_below_drewN | apply below_drew1) | exact HB.out)⟩⟩
       ·rw [if_neg c21] at H
        have c21b0 : (t208 == 0) = false := beq_eq_false_iff_ne.mpr c21
        have c21b1 : (t208 != 0) = true := bne_iff_ne.mpr c21
        have H' := Aside0.mk H
        clear H
        go_wp2
        go_meet
        case rel => exact ⟨_, (true), (by first | rfl | (simp; done) | (simp [*]; done)), H', ⟨by first | omega | exact Nat.le_refl _⟩, ⟨by repeat (first | (with_reducible first | exact HB.out | apply below_alloc | apply pw_below_drewN | apply below_drew1) | exact HB.out)⟩⟩
      ·rw [if_neg c20] at H
       have c20b0 : (t206 == 3) = false := beq_eq_false_iff_ne.mpr c20
       have c20b1 : (t206 != 3) = true := bne_iff_ne.mpr c20
       have H' := Aside0.mk H
       clear H
       go_wp2
       go_meet
       case rel => exact ⟨_, (true), (by first | rfl | (simp; done) | (simp [*]; done)), H', ⟨by first | omega | exact Nat.le_refl _⟩, ⟨by repeat (first | (with_reducible first | exact HB.out | apply below_alloc | apply pw_below_drewN | apply below_drew1) | exact HB.out)⟩⟩
    case rest =>
     clear HC12
     try clear c1; try clear c2; try clear p2; try clear c3; try clear c5; try clear c6; try clear c6b0; try clear c6b1; try clear p6; try clear c9; try clear c9b0; try clear c9b1; try clear c10; try clear c12; try clear c17; try clear c17b0; try clear c17b1; try clear c18; try clear c18b0; try clear c19; try clear c19b0; try clear c19b1; try clear c20; try clear c20b0; try clear c20b1; try clear c21; try clear c21b0; try clear c21b1
     obtain ⟨kq, x73_11, rfl, HA, HJ11, HB⟩ := hcut
     cases kq with
     | zero => exact absurd HA.out (by simp [lombardlaw10_EirFits.j0])
     | succ kj11 =>
      have H := HA.out
      clear HA
      simp only [lombardlaw10_EirFits.j0] at H
      by_cases c22 : x73_11 = true
      ·subst c22
       have H1 : (some false) = some r := by rw [if_pos rfl] at H; exact H
       clear H
       have H := H1
       clear H1
       obtain rfl := Option.some.inj H
       go_wp2
       go_ret
       exact ⟨by first | rfl | (simp [errW_none, errW_some] <;> rfl) | (simp [*, errW_none, errW_some] <;> rfl), by repeat (first | (with_reducible first | exact HB.out | apply below_alloc | apply pw_below_drewN | apply below_drew1) | exact HB.out)⟩
      ·replace c22 := Bool.eq_false_iff.mpr c22
       subst c22
       have H1 : ((eir_Fits.f kj11 a0 l1 t202).bind fun t209 => (if t209 = true then (if a2 = 0 then (some true) else ((eir_Fits.f kj11 a0 l1 (wrap64 (t202 + (Int.tmod a2 1000000)))).bind fun t210 => (if t210 = true then (some ((Int.tmod a2 1000000) == 0)) else (some true)))) else (some false))) = some r := by rw [if_neg (show ¬ (false = true) by decide)] at H; exact H
       clear H
       have H := H1
       clear H1
       replace H := Option.bind_eq_some_iff.mp H
       obtain ⟨t209, A230, H⟩ := H
       replace H : (if t209 = true then (if a2 = 0 then (some true) else ((eir_Fits.f kj11 a0 l1 (wrap64 (t202 + (Int.tmod a2 1000000)))).bind fun t210 => (if t210 = true then (some ((Int.tmod a2 1000000) == 0)) else (some true)))) else (some false)) = some r := H
       have A23 := Aside0.mk A230
       clear A230
       by_cases c24 : t209 = true
       ·subst c24
        have H1 : (if a2 = 0 then (some true) else ((eir_Fits.f kj11 a0 l1 (wrap64 (t202 + (Int.tmod a2 1000000)))).bind fun t210 => (if t210 = true then (some ((Int.tmod a2 1000000) == 0)) else (some true)))) = some r := by rw [if_pos rfl] at H; exact H
        clear H
        have H := H1
        clear H1
        by_cases c25 : a2 = 0
        ·rw [if_pos c25] at H
         have c25b0 : (a2 == 0) = true := beq_iff_eq.mpr c25
         have c25b1 : (a2 != 0) = false := bne_eq_false_iff_eq.mpr c25
         clear c25
         obtain rfl := Option.some.inj H
         go_wp2_with (first | ((with_reducible refine gate_callee (f := 11) rfl ?_); refine goesL_ (some 77) rfl rfl Star.func11 (by kernel_rfl) rfl #[.int .i64 a0, .slice A1 l1.length c1, .int .i64 t202] rfl (by (try simp only [List.map_toArray, List.map_cons, List.map_nil]); first | done | rfl | (simp only [List.length_drop, List.length_take]; rfl)) ?_; (with_reducible refine (eir_Fits.calls kj11 a0 _ _ l1 t202 true _ ?side1 ?side2 A23.out).mono ?_); (case side1 => repeat (first | exact (Kd.C_below HR1.out HB.out) | (with_reducible refine Kd.C_alloc ?_ _) | (with_reducible refine Kd.C_drewN ?_ _) | (with_reducible refine Kd.C_drew ?_))); (case side2 => exact HC1.out); rintro e w26 ⟨rfl, hb⟩; refine ⟨_, rfl, ?_⟩; have n0_ := Aside0.mk (below_step (by repeat (first | (with_reducible first | exact HB.out | apply below_alloc | apply pw_below_drewN | apply below_drew1) | exact HB.out)) hb); clear HB; have HB := n0_; clear n0_; (try clear hb); (try clear hb2); (try clear hk); (try clear hi)))
         go_ret
         exact ⟨by first | rfl | (simp [errW_none, errW_some] <;> rfl) | (simp [*, errW_none, errW_some] <;> rfl), by repeat (first | (with_reducible first | exact HB.out | apply below_alloc | apply pw_below_drewN | apply below_drew1) | exact HB.out)⟩
        ·rw [if_neg c25] at H
         have c25b0 : (a2 == 0) = false := beq_eq_false_iff_ne.mpr c25
         have c25b1 : (a2 != 0) = true := bne_iff_ne.mpr c25
         replace H := Option.bind_eq_some_iff.mp H
         obtain ⟨t210, A270, H⟩ := H
         replace H : (if t210 = true then (some ((Int.tmod a2 1000000) == 0)) else (some true)) = some r := H
         have A27 := Aside0.mk A270
         clear A270
         by_cases c28 : t210 = true
         ·subst c28
          have H1 : (some ((Int.tmod a2 1000000) == 0)) = some r := by rw [if_pos rfl] at H; exact H
          clear H
          have H := H1
          clear H1
          obtain rfl := Option.some.inj H
          go_wp2_with (first | ((with_reducible refine gate_callee (f := 11) rfl ?_); refine goesL_ (some 77) rfl rfl Star.func11 (by kernel_rfl) rfl #[.int .i64 a0, .slice A1 l1.length c1, .int .i64 t202] rfl (by (try simp only [List.map_toArray, List.map_cons, List.map_nil]); first | done | rfl | (simp only [List.length_drop, List.length_take]; rfl)) ?_; (with_reducible refine (eir_Fits.calls kj11 a0 _ _ l1 t202 true _ ?side1 ?side2 A23.out).mono ?_); (case side1 => repeat (first | exact (Kd.C_below HR1.out HB.out) | (with_reducible refine Kd.C_alloc ?_ _) | (with_reducible refine Kd.C_drewN ?_ _) | (with_reducible refine Kd.C_drew ?_))); (case side2 => exact HC1.out); rintro e w29 ⟨rfl, hb⟩; refine ⟨_, rfl, ?_⟩; have n0_ := Aside0.mk (below_step (by repeat (first | (with_reducible first | exact HB.out | apply below_alloc | apply pw_below_drewN | apply below_drew1) | exact HB.out)) hb); clear HB; have HB := n0_; clear n0_; (try clear hb); (try clear hb2); (try clear hk); (try clear hi)) | (go_at_call 11; (with_reducible refine (eir_Fits.calls kj11 a0 _ _ l1 (wrap64 (t202 + (Int.tmod a2 1000000))) true _ ?side1 ?side2 A27.out).mono ?_); (case side1 => repeat (first | exact (Kd.C_below HR1.out HB.out) | (with_reducible refine Kd.C_alloc ?_ _) | (with_reducible refine Kd.C_drewN ?_ _) | (with_reducible refine Kd.C_drew ?_))); (case side2 => exact HC1.out); rintro e w30 ⟨rfl, hb⟩; have n0_ := Aside0.mk (below_step (by repeat (first | (with_reducible first | exact HB.out | apply below_alloc | apply pw_below_drewN | apply below_drew1) | exact HB.out)) hb); clear HB; have HB := n0_; clear n0_; (try clear hb); (try clear hb2); (try clear hk); (try clear hi)))
          go_ret
          exact ⟨by first | rfl | (simp [errW_none, errW_some] <;> rfl) | (simp [*, errW_none, errW_some] <;> rfl), by repeat (first | (with_reducible first | exact HB.out | apply below_alloc | apply pw_below_drewN | apply below_drew1) | exact HB.out)⟩
         ·replace c28 := Bool.eq_false_iff.mpr c28
          subst c28
          have H1 : (some true) = some r := by rw [if_neg (show ¬ (false = true) by decide)] at H; exact H
          clear H
          have H := H1
          clear H1
          obtain rfl := Option.some.inj H
          go_wp2_with (first | ((with_reducible refine gate_callee (f := 11) rfl ?_); refine goesL_ (some 77) rfl rfl Star.func11 (by kernel_rfl) rfl #[.int .i64 a0, .slice A1 l1.length c1, .int .i64 t202] rfl (by (try simp only [List.map_toArray, List.map_cons, List.map_nil]); first | done | rfl | (simp only [List.length_drop, List.length_take]; rfl)) ?_; (with_reducible refine (eir_Fits.calls kj11 a0 _ _ l1 t202 true _ ?side1 ?side2 A23.out).mono ?_); (case side1 => repeat (first | exact (Kd.C_below HR1.out HB.out) | (with_reducible refine Kd.C_alloc ?_ _) | (with_reducible refine Kd.C_drewN ?_ _) | (with_reducible refine Kd.C_drew ?_))); (case side2 => exact HC1.out); rintro e w31 ⟨rfl, hb⟩; refine ⟨_, rfl, ?_⟩; have n0_ := Aside0.mk (below_step (by repeat (first | (with_reducible first | exact HB.out | apply below_alloc | apply pw_below_drewN | apply below_drew1) | exact HB.out)) hb); clear HB; have HB := n0_; clear n0_; (try clear hb); (try clear hb2); (try clear hk); (try clear hi)) | (go_at_call 11; (with_reducible refine (eir_Fits.calls kj11 a0 _ _ l1 (wrap64 (t202 + (Int.tmod a2 1000000))) false _ ?side1 ?side2 A27.out).mono ?_); (case side1 => repeat (first | exact (Kd.C_below HR1.out HB.out) | (with_reducible refine Kd.C_alloc ?_ _) | (with_reducible refine Kd.C_drewN ?_ _) | (with_reducible refine Kd.C_drew ?_))); (case side2 => exact HC1.out); rintro e w32 ⟨rfl, hb⟩; have n0_ := Aside0.mk (below_step (by repeat (first | (with_reducible first | exact HB.out | apply below_alloc | apply pw_below_drewN | apply below_drew1) | exact HB.out)) hb); clear HB; have HB := n0_; clear n0_; (try clear hb); (try clear hb2); (try clear hk); (try clear hi)))
          go_ret
          exact ⟨by first | rfl | (simp [errW_none, errW_some] <;> rfl) | (simp [*, errW_none, errW_some] <;> rfl), by repeat (first | (with_reducible first | exact HB.out | apply below_alloc | apply pw_below_drewN | apply below_drew1) | exact HB.out)⟩
       ·replace c24 := Bool.eq_false_iff.mpr c24
        subst c24
        have H1 : (some false) = some r := by rw [if_neg (show ¬ (false = true) by decide)] at H; exact H
        clear H
        have H := H1
        clear H1
        obtain rfl := Option.some.inj H
        go_wp2_with (first | ((with_reducible refine gate_callee (f := 11) rfl ?_); refine goesL_ (some 77) rfl rfl Star.func11 (by kernel_rfl) rfl #[.int .i64 a0, .slice A1 l1.length c1, .int .i64 t202] rfl (by (try simp only [List.map_toArray, List.map_cons, List.map_nil]); first | done | rfl | (simp only [List.length_drop, List.length_take]; rfl)) ?_; (with_reducible refine (eir_Fits.calls kj11 a0 _ _ l1 t202 false _ ?side1 ?side2 A23.out).mono ?_); (case side1 => repeat (first | exact (Kd.C_below HR1.out HB.out) | (with_reducible refine Kd.C_alloc ?_ _) | (with_reducible refine Kd.C_drewN ?_ _) | (with_reducible refine Kd.C_drew ?_))); (case side2 => exact HC1.out); rintro e w33 ⟨rfl, hb⟩; refine ⟨_, rfl, ?_⟩; have n0_ := Aside0.mk (below_step (by repeat (first | (with_reducible first | exact HB.out | apply below_alloc | apply pw_below_drewN | apply below_drew1) | exact HB.out)) hb); clear HB; have HB := n0_; clear n0_; (try clear hb); (try clear hb2); (try clear hk); (try clear hi)))
        go_ret
        exact ⟨by first | rfl | (simp [errW_none, errW_some] <;> rfl) | (simp [*, errW_none, errW_some] <;> rfl), by repeat (first | (with_reducible first | exact HB.out | apply below_alloc | apply pw_below_drewN | apply below_drew1) | exact HB.out)⟩
   ·rw [if_neg c9] at H
    have c9b0 : (t203 == 0) = false := beq_eq_false_iff_ne.mpr c9
    have c9b1 : (t203 != 0) = true := bne_iff_ne.mpr c9
    have HC34 := Aside0.mk H
    clear H
    go_enter Star.func3, Try.ntmps3
    go_upto_region 7 with (first | ((with_reducible refine gate_callee (f := 9) rfl ?_); refine goesL_ (some 13) rfl rfl Star.func9 (by kernel_rfl) rfl #[] rfl (by (try simp only [List.map_toArray, List.map_cons, List.map_nil]); first | done | rfl | (simp only [List.length_drop, List.length_take]; rfl)) ?_; (with_reducible refine (lombardlaw10_alive.calls k  true _ A4.out).mono ?_); rintro e w35 ⟨rfl, hb⟩; refine ⟨_, rfl, ?_⟩; have n0_ := Aside0.mk (below_step (by repeat (first | (with_reducible first | exact HB.out | apply below_alloc | apply pw_below_drewN | apply below_drew1) | exact HB.out)) hb); clear HB; have HB := n0_; clear n0_; (try clear hb); (try clear hb2); (try clear hk); (try clear hi)) | ((with_reducible refine gate_callee (f := 10) rfl ?_); refine goesL_ (some 21) rfl rfl Star.func10 (by kernel_rfl) rfl #[.int .i64 a0, .slice A1 l1.length c1] rfl (by (try simp only [List.map_toArray, List.map_cons, List.map_nil]); first | done | rfl | (simp only [List.length_drop, List.length_take]; rfl)) ?_; (with_reducible refine (eir_Solve.calls k a0 _ _ l1 t202 t203 _ ?side1 ?side2 A8.out).mono ?_); (case side1 => repeat (first | exact (Kd.C_below HR1.out HB.out) | (with_reducible refine Kd.C_alloc ?_ _) | (with_reducible refine Kd.C_drewN ?_ _) | (with_reducible refine Kd.C_drew ?_))); (case side2 => exact HC1.out); rintro e w36 ⟨rfl, hb⟩; refine ⟨_, rfl, ?_⟩; have n0_ := Aside0.mk (below_step (by repeat (first | (with_reducible first | exact HB.out | apply below_alloc | apply pw_below_drewN | apply below_drew1) | exact HB.out)) hb); clear HB; have HB := n0_; clear n0_; (try clear hb); (try clear hb2); (try clear hk); (try clear hi)))
    have H := HC34.out
    clear HC34
    by_cases c37 : t202 = 0
    ·rw [if_pos c37] at H
     have c37b0 : (t202 == 0) = true := beq_iff_eq.mpr c37
     have c37b1 : (t202 != 0) = false := bne_eq_false_iff_eq.mpr c37
     clear c37
     replace H := Option.bind_eq_some_iff.mp H
     obtain ⟨t204, A380, H⟩ := H
     replace H : (some (!t204)) = some r := H
     have A38 := Aside0.mk A380
     clear A380
     obtain rfl := Option.some.inj H
     go_wp2_with (first | (go_at_call 11; (with_reducible refine (eir_Fits.calls k a0 _ _ l1 a2 t204 _ ?side1 ?side2 A38.out).mono ?_); (case side1 => repeat (first | exact (Kd.C_below HR1.out HB.out) | (with_reducible refine Kd.C_alloc ?_ _) | (with_reducible refine Kd.C_drewN ?_ _) | (with_reducible refine Kd.C_drew ?_))); (case side2 => exact HC1.out); rintro e w39 ⟨rfl, hb⟩; have n0_ := Aside0.mk (below_step (by repeat (first | (with_reducible first | exact HB.out | apply below_alloc | apply pw_below_drewN | apply below_drew1) | exact HB.out)) hb); clear HB; have HB := n0_; clear n0_; (try clear hb); (try clear hb2); (try clear hk); (try clear hi)))
     go_ret
     exact ⟨by first | rfl | (simp [errW_none, errW_some] <;> rfl) | (simp [*, errW_none, errW_some] <;> rfl), by repeat (first | (with_reducible first | exact HB.out | apply below_alloc | apply pw_below_drewN | apply below_drew1) | exact HB.out)⟩
    ·rw [if_neg c37] at H
     have c37b0 : (t202 == 0) = false := beq_eq_false_iff_ne.mpr c37
     have c37b1 : (t202 != 0) = true := bne_iff_ne.mpr c37
     obtain rfl := Option.some.inj H
     go_wp2
     go_ret
     exact ⟨by first | rfl | (simp [errW_none, errW_some] <;> rfl) | (simp [*, errW_none, errW_some] <;> rfl), by repeat (first | (with_reducible first | exact HB.out | apply below_alloc | apply pw_below_drewN | apply below_drew1) | exact HB.out)⟩
 ·replace c5 := Bool.eq_false_iff.mpr c5
  subst c5
  have H1 : (some false) = some r := by rw [if_neg (show ¬ (false = true) by decide)] at H; exact H
  clear H
  have H := H1
  clear H1
  obtain rfl := Option.some.inj H
  go_enter Star.func3, Try.ntmps3
  go_wp2_with (first | ((with_reducible refine gate_callee (f := 9) rfl ?_); refine goesL_ (some 13) rfl rfl Star.func9 (by kernel_rfl) rfl #[] rfl (by (try simp only [List.map_toArray, List.map_cons, List.map_nil]); first | done | rfl | (simp only [List.length_drop, List.length_take]; rfl)) ?_; (with_reducible refine (lombardlaw10_alive.calls k  false _ A4.out).mono ?_); rintro e w40 ⟨rfl, hb⟩; refine ⟨_, rfl, ?_⟩; have n0_ := Aside0.mk (below_step (by repeat (first | (with_reducible first | exact HB.out | apply below_alloc | apply pw_below_drewN | apply below_drew1) | exact HB.out)) hb); clear HB; have HB := n0_; clear n0_; (try clear hb); (try clear hb2); (try clear hk); (try clear hi)))
  go_ret
  exact ⟨by first | rfl | (simp [errW_none, errW_some] <;> rfl) | (simp [*, errW_none, errW_some] <;> rfl), by repeat (first | (with_reducible first | exact HB.out | apply below_alloc | apply pw_below_drewN | apply below_drew1) | exact HB.out)⟩
def lombardlaw10_EirFits.Pure : Prop := ∀ (a0 : Int) (l1 : List Int) (a2 : Int), (Lit.int .i64 a0).wf = true → l1.length ≤ maxLen → l1.length * 8 ≤ 140737488351232 → (∀ x ∈ l1, (Lit.int .i64 x).wf = true) → (Lit.int .i64 a2).wf = true → ∃ k, lombardlaw10_EirFits.f k a0 l1 a2 = some true
theorem lombardlaw10_EirFits.walk (P : lombardlaw10_EirFits.Pure) (a0 : Int) (a1 : Option Addr) (len1 cap1 : Nat) (z1 : List Int) (a2 : Int) (w : World) (w0 : (Lit.int .i64 a0).wf = true) (w1 : (a1 = none ∧ len1 = 0 ∧ cap1 = 0 ∧ z1 = []) ∨ ∃ x, a1 = some x ∧ len1 ≤ cap1 ∧ cap1 ≤ maxLen ∧ z1.length = cap1 ∧ (∀ i, i < z1.length → w.cell? (x.add i) = some (.int .i64 (z1.getD i 0))) ∧ ∀ n ∈ z1, (Lit.int .i64 n).wf = true) (y1 : len1 * 8 ≤ 140737488351232) (w2 : (Lit.int .i64 a2).wf = true) :
  Calls Star.prog 3 #[.int .i64 a0, .slice a1 len1 cap1, .int .i64 a2] w fun e w' => e = .returned (.bool true) ∧ Below w.heap.size w w' := by
 obtain ⟨l1, rfl, hr1, hm1, hw1, hc1⟩ := ReadsInt.ofRowC w1
 obtain ⟨k, h⟩ := P a0 l1 a2 w0 hm1 y1 hw1 w2
 refine (lombardlaw10_EirFits.calls k a0 _ _ l1 a2 true w (Kd.C_of_reads (d := (0 : Int)) (h1 := fun _ => rfl) hr1) hc1 h).mono ?_
 rintro e w' ⟨rfl, hd⟩
 exact ⟨rfl, hd⟩
end Go.Proofs.Ytjgleaakgbnjgaa.S
end

section
namespace Go.Proofs.Ytjgleaakgbnjgaa.Par
open Go
abbrev Emb := Nat → Option Nat
def Emb.le (ρ σ : Emb) : Prop := ∀ b c, ρ b = some c → σ b = some c
theorem Emb.le.refl (ρ : Emb) : ρ.le ρ := fun _ _ h => h
theorem Emb.le.trans {ρ σ τ : Emb} (h : ρ.le σ) (h' : σ.le τ) : ρ.le τ := fun b c x => h' b c (h b c x)
def Emb.add (ρ : Emb) (n r : Nat) : Emb := fun b => if b = n then some r else ρ b
theorem Emb.le_add {ρ : Emb} {n r : Nat} (h : ρ n = none) : ρ.le (ρ.add n r) := fun b c x => by
 unfold Emb.add
 split
 ·rename_i e
  rw [e, h] at x
  cases x
 ·exact x
theorem Emb.add_new (ρ : Emb) (n r : Nat) : ρ.add n r n = some r := by simp [Emb.add]
def AR {α β : Type} (R : α → β → Prop) (a : Array α) (b : Array β) : Prop := a.size = b.size ∧ ∀ (i : Nat) (x : α) (y : β), a[i]? = some x → b[i]? = some y → R x y
theorem AR.mono {α β : Type} {R S : α → β → Prop} {a : Array α} {b : Array β} (h : AR R a b) (hs : ∀ x y, R x y → S x y) : AR S a b := ⟨h.1, fun i x y hx hy => hs _ _ (h.2 i x y hx hy)⟩
theorem AR.getNone {α β : Type} {R : α → β → Prop} {a : Array α} {b : Array β} (h : AR R a b) {i : Nat} (hi : a[i]? = none) : b[i]? = none := by
 rw [Array.getElem?_eq_none_iff] at hi ⊢
 rw [← h.1]
 exact hi
theorem AR.getSome {α β : Type} {R : α → β → Prop} {a : Array α} {b : Array β} (h : AR R a b) {i : Nat} {x : α} (hi : a[i]? = some x) : ∃ y, b[i]? = some y ∧ R x y := by
 have l := (Array.getElem?_eq_some_iff.1 hi).1
 rw [h.1] at l
 exact ⟨b[i], Array.getElem?_eq_getElem l, h.2 i x _ hi (Array.getElem?_eq_getElem l)⟩
theorem AR.empty {α β : Type} {R : α → β → Prop} : AR R (#[] : Array α) (#[] : Array β) := ⟨rfl, fun i x y h => by simp at h⟩
theorem AR.push {α β : Type} {R : α → β → Prop} {a : Array α} {b : Array β} (h : AR R a b) {x : α} {y : β} (hx : R x y) : AR R (a.push x) (b.push y) := by
 refine ⟨by simp [h.1], fun i u v hu hv => ?_⟩
 rw [Array.getElem?_push] at hu hv
 rw [← h.1] at hv
 split at hu <;> rename_i c
 ·rw [if_pos c] at hv
  cases hu
  cases hv
  exact hx
 ·rw [if_neg c] at hv
  exact h.2 i u v hu hv
theorem AR.append {α β : Type} {R : α → β → Prop} {a a' : Array α} {b b' : Array β} (h : AR R a b) (h' : AR R a' b') : AR R (a ++ a') (b ++ b') := by
 refine ⟨by simp [h.1, h'.1], fun i u v hu hv => ?_⟩
 rw [Array.getElem?_append] at hu hv
 rw [← h.1] at hv
 split at hu <;> rename_i c
 ·rw [if_pos c] at hv
  exact h.2 i u v hu hv
 ·rw [if_neg c] at hv
  exact h'.2 _ u v hu hv
theorem AR.set {α β : Type} {R : α → β → Prop} {a : Array α} {b : Array β} (h : AR R a b) (i : Nat) {x : α} {y : β} (hx : R x y) : AR R (a.setIfInBounds i x) (b.setIfInBounds i y) := by
 refine ⟨by simp [h.1], fun j u v hu hv => ?_⟩
 rw [Array.getElem?_setIfInBounds] at hu hv
 rw [← h.1] at hv
 split at hu <;> rename_i c
 ·rw [if_pos c] at hv
  split at hu <;> rename_i d
  ·rw [if_pos d] at hv
   cases hu
   cases hv
   exact hx
  ·cases hu
 ·rw [if_neg c] at hv
  exact h.2 j u v hu hv
theorem AR.extract {α β : Type} {R : α → β → Prop} {a : Array α} {b : Array β} (h : AR R a b) (i j : Nat) : AR R (a.extract i j) (b.extract i j) := by
 refine ⟨by simp [h.1], fun k u v hu hv => ?_⟩
 rw [Array.getElem?_extract] at hu hv
 rw [← h.1] at hv
 split at hu <;> rename_i c
 ·rw [if_pos c] at hv
  exact h.2 _ u v hu hv
 ·cases hu
theorem AR.replicate {α β : Type} {R : α → β → Prop} (n : Nat) {x : α} {y : β} (h : R x y) : AR R (Array.replicate n x) (Array.replicate n y) := by
 refine ⟨by simp, fun i u v hu hv => ?_⟩
 simp only [Array.getElem?_replicate] at hu hv
 split at hu <;> rename_i c
 ·rw [if_pos c] at hv
  cases hu
  cases hv
  exact h
 ·cases hu
theorem AR.mapSame {α γ δ : Type} {S : γ → δ → Prop} (a : Array α) {f : α → γ} {g : α → δ} (hf : ∀ (i : Nat) (x : α), a[i]? = some x → S (f x) (g x)) : AR S (a.map f) (a.map g) := by
 refine ⟨by simp, fun i u v hu hv => ?_⟩
 rw [Array.getElem?_map] at hu hv
 obtain ⟨x, hx, rfl⟩ := Option.map_eq_some_iff.1 hu
 obtain ⟨y, hy, rfl⟩ := Option.map_eq_some_iff.1 hv
 rw [hx] at hy
 cases hy
 exact hf i x hx
structure Cfg where
 N : FuncId → Prop
 T : TypeId → Prop
 G : Nat
 F : Array Func
 S : FuncId → Nat → Prop
def Cfg.here (N : Cfg) (P : Program) : Program := { P with funcs := N.F }
def notNil : Value → Bool
 | .pointer none | .nilIface | .nilFunc | .func (.method _) _ _ | .bool _ => false
 | _ => true
section
variable (N : Cfg)
inductive VR (ρ : Emb) : Value → Value → Prop
 | bool (b : Bool) : VR ρ (.bool b) (.bool b)
 | int (k : IntKind) (n : Int) : VR ρ (.int k n) (.int k n)
 | string (s : ByteArray) : VR ρ (.string s) (.string s)
 | nilPtr : VR ρ (.pointer none) (.pointer none)
 | ptr {a : Addr} {b : Nat} (h : ρ a.block = some b) (hg : N.G ≤ a.block) : VR ρ (.pointer (some a)) (.pointer (some ⟨b, a.off, a.spot⟩))
 | nilSlice (n c : Nat) : VR ρ (.slice none n c) (.slice none n c)
 | slice {a : Addr} {b : Nat} (h : ρ a.block = some b) (hg : N.G ≤ a.block) (n c : Nat) : VR ρ (.slice (some a) n c) (.slice (some ⟨b, a.off, a.spot⟩) n c)
 | nilMap : VR ρ (.map none) (.map none)
 | nilChan : VR ρ (.chan none) (.chan none)
 | func {f : FuncId} (h : N.N f) {xs xs' ys ys' : Array Value} (sx : xs.size = xs'.size) (hx : ∀ (i : Nat) (v v' : Value), xs[i]? = some v → xs'[i]? = some v' → VR ρ v v')
   (sy : ys.size = ys'.size) (hy : ∀ (i : Nat) (v v' : Value), ys[i]? = some v → ys'[i]? = some v' → VR ρ v v') : VR ρ (.func (.func f) xs ys) (.func (.func f) xs' ys')
 | yield {l l' : Nat} (h : ρ l = some l') : VR ρ (.func (.yield l) #[] #[]) (.func (.yield l') #[] #[])
 | nilFunc : VR ρ .nilFunc .nilFunc
 | iface {t : TypeId} (ht : N.T t) {v v' : Value} (h : VR ρ v v') : VR ρ (.iface t v) (.iface t v')
 | nilIface : VR ρ .nilIface .nilIface
 | agg {xs xs' : Array Value} (sx : xs.size = xs'.size) (hx : ∀ (i : Nat) (v v' : Value), xs[i]? = some v → xs'[i]? = some v' → VR ρ v v') : VR ρ (.agg xs) (.agg xs')
 | tuple {xs xs' : Array Value} (sx : xs.size = xs'.size) (hx : ∀ (i : Nat) (v v' : Value), xs[i]? = some v → xs'[i]? = some v' → VR ρ v v') : VR ρ (.tuple xs) (.tuple xs')
 | dead {v' : Value} (h : v'.cells = #[v']) (hn : notNil v' = true) : VR ρ (.tuple #[]) v'
 | meth (n : String) (xs ys : Array Value) : VR ρ (.func (.method n) #[.nilIface] #[]) (.func (.method n) xs ys)
variable {N}
theorem VR.mono {ρ σ : Emb} (h : ρ.le σ) {v v' : Value} (hv : VR N ρ v v') : VR N σ v v' := by
 induction hv with
 | ptr x g => exact .ptr (h _ _ x) g
 | slice x g n c => exact .slice (h _ _ x) g n c
 | yield x => exact .yield (h _ _ x)
 | func hf sx _ sy _ ihx ihy => exact .func hf sx (fun i v v' a b => ihx i v v' a b) sy (fun i v v' a b => ihy i v v' a b)
 | iface ht _ ih => exact .iface ht ih
 | agg sx _ ih => exact .agg sx fun i v v' a b => ih i v v' a b
 | tuple sx _ ih => exact .tuple sx fun i v v' a b => ih i v v' a b
 | dead h hn => exact .dead h hn
 | meth n xs ys => exact .meth n xs ys
 | _ => constructor
theorem VR.ofAgg {ρ : Emb} {xs xs' : Array Value} (h : AR (VR N ρ) xs xs') : VR N ρ (.agg xs) (.agg xs') := .agg h.1 h.2
theorem VR.ofTuple {ρ : Emb} {xs xs' : Array Value} (h : AR (VR N ρ) xs xs') : VR N ρ (.tuple xs) (.tuple xs') := .tuple h.1 h.2
theorem VR.undef {ρ : Emb} : VR N ρ undef undef := .ofTuple .empty
theorem VR.cells {ρ : Emb} {v v' : Value} (h : VR N ρ v v') : AR (VR N ρ) v.cells v'.cells := by
 have one : ∀ {a b : Value}, VR N ρ a b → AR (VR N ρ) #[a] #[b] := fun h => AR.empty.push h
 cases h with
 | agg sx hx => exact ⟨sx, hx⟩
 | bool b => exact one (.bool b)
 | int k n => exact one (.int k n)
 | string s => exact one (.string s)
 | nilPtr => exact one .nilPtr
 | ptr h g => exact one (.ptr h g)
 | nilSlice n c => exact one (.nilSlice n c)
 | slice h g n c => exact one (.slice h g n c)
 | nilMap => exact one .nilMap
 | nilChan => exact one .nilChan
 | func h sx hx sy hy => exact one (.func h sx hx sy hy)
 | yield h => exact one (.yield h)
 | nilFunc => exact one .nilFunc
 | iface ht h => exact one (.iface ht h)
 | nilIface => exact one .nilIface
 | tuple sx hx => exact one (.tuple sx hx)
 | dead h hn =>
  rw [h]
  exact one (.dead h hn)
 | meth n xs ys => exact one (.meth n xs ys)
end
section
variable (N : Cfg)
variable (ok : Code → Prop)
inductive OR (ρ : Emb) : Obj → Obj → Prop
 | cells {c c' : Array Value} (h : AR (VR N ρ) c c') (e : TypeId) {fr fr' : Nat × Nat} (hf : ∀ i, fr'.1 ≤ i → i < fr'.2 → fr.1 ≤ i ∧ i < fr.2) : OR ρ (.cells c e fr) (.cells c' e fr')
 | loop {l l' : Loop} (hs : l'.state = l.state) (hp : l'.pending = l.pending) (hpo : ∀ c, l.pending = some c → ok c) (hfn : l'.fn = l.fn) (ht : AR (VR N ρ) l.tmps l'.tmps) (hpa : l'.params = l.params) (has : l'.assign = l.assign) (hao : ok l.assign) (hbo : l'.body = l.body)
   (hbk : ok l.body) (hd : ρ l.defers = some l'.defers) : OR ρ (.loop l) (.loop l')
 | number {a : Addr} {b : Nat} (h : ρ a.block = some b) (hg : N.G ≤ a.block) (lost : Bool) : OR ρ (.number a lost) (.number ⟨b, a.off, a.spot⟩ lost)
 | taken : OR ρ (.deferred none) (.deferred none)
 | undeferred : OR ρ (.deferred (some [])) (.deferred (some []))
variable {N ok}
theorem OR.mono {ρ σ : Emb} (h : ρ.le σ) {o o' : Obj} (ho : OR N ok ρ o o') : OR N ok σ o o' := by
 cases ho with
 | cells hc e hf => exact .cells (hc.mono fun _ _ x => x.mono h) e hf
 | loop hs hp hpo hfn ht hpa has hao hbo hbk hd => exact .loop hs hp hpo hfn (ht.mono fun _ _ x => x.mono h) hpa has hao hbo hbk (h _ _ hd)
 | number x g lost => exact .number (h _ _ x) g lost
 | taken => exact .taken
 | undeferred => exact .undeferred
end
section
variable (P : Program) (N : Cfg) (ok : Code → Prop) (Poi Ro : Nat → Prop)
structure WR (ρ : Emb) (v w : World) : Prop where
 dom : ∀ b c, ρ b = some c → ∃ o o', v.heap[b]? = some o ∧ w.heap[c]? = some o' ∧ OR N ok ρ o o'
 inj : ∀ b b' c, ρ b = some c → ρ b' = some c → b = b'
 poi : ∀ b, Poi b → ∃ t fr, v.heap[b]? = some (.cells #[] t fr)
 ro : ∀ b, Ro b → ∃ c e fr, v.heap[b]? = some (.cells c e fr) ∧ ∀ i, i < c.size → fr.1 ≤ i ∧ i < fr.2
 glob : ∀ b c, ρ b = some c → N.G ≤ b
 gsize : N.G ≤ v.heap.size
 tape : v.tape = w.tape
 drawn : v.drawn = w.drawn
 globR : ∀ b c, ρ b = some c → N.G ≤ c
 gsizeR : N.G ≤ w.heap.size
def EvOk (σ : Emb) (e : Event) : Prop :=
 match e.loc with
 | .cell a => ∃ b, σ b = some a.block ∧ (e.write = true → ¬Ro b)
 | .obj r => ∃ b, σ b = some r ∧ (e.write = true → ¬Ro b)
 | .mark m => m = .noRoom ∨ ∃ f, m = .extern f
 | _ => False
def HaltOk : Halt → Prop
 | .panic _ | .stuck _ => True
 | .unsupported (.initOrder _) => False
 | .unsupported _ => True
 | _ => False
def Grow (w w' : World) : Prop := w.heap.size ≤ w'.heap.size ∧ (∀ b, b < w.heap.size → w'.heap[b]? = w.heap[b]?) ∧ w'.tape = w.tape
theorem Grow.refl (w : World) : Grow w w := ⟨Nat.le_refl _, fun _ _ => rfl, rfl⟩
def MarkOk (m : Mark) : Prop := m = .noRoom ∨ ∃ f, m = .extern f
inductive SR {α β : Type} (A : Emb → α → β → Prop) : Emb → Sem α → Sem β → Prop
 | pure {ρ : Emb} {a : α} {b : β} (h : A ρ a b) : SR A ρ (.pure a) (.pure b)
 | load {ρ : Emb} {m : Mode} {a : Addr} {b : Nat} {k : Value → Sem α} {k' : Value → Sem β} (h : ρ a.block = some b) (hk : ∀ v v', VR N ρ v v' → SR A ρ (k v) (k' v')) : SR A ρ (.load m a k) (.load m ⟨b, a.off, a.spot⟩ k')
 | loadPoison {ρ : Emb} {m : Mode} {a : Addr} {k : Value → Sem α} {t' : Sem β} (h : Poi a.block) : SR A ρ (.load m a k) t'
 | store {ρ : Emb} {m : Mode} {a : Addr} {b : Nat} {v v' : Value} {k : Sem α} {k' : Sem β} (h : ρ a.block = some b) (hv : VR N ρ v v') (hk : SR A ρ k k') : SR A ρ (.store m a v k) (.store m ⟨b, a.off, a.spot⟩ v' k')
 | new {ρ : Emb} {o o' : Obj} {k : Nat → Sem α} {k' : Nat → Sem β} (h : OR N ok ρ o o') (hk : ∀ n r, ρ n = none → N.G ≤ n → SR A (ρ.add n r) (k n) (k' r)) : SR A ρ (.new o k) (.new o' k')
 | shape {ρ : Emb} {r r' : Nat} {k : Option (TypeId × Nat) → Sem α} {k' : Option (TypeId × Nat) → Sem β} (h : ρ r = some r') (hk : ∀ x, SR A ρ (k x) (k' x)) : SR A ρ (.shape r k) (.shape r' k')
 | getObj {ρ : Emb} {r r' : Nat} {k : Obj → Sem α} {k' : Obj → Sem β} (h : ρ r = some r') (hk : ∀ o o', OR N ok ρ o o' → SR A ρ (k o) (k' o')) : SR A ρ (.getObj r k) (.getObj r' k')
 | setObj {ρ : Emb} {r r' : Nat} {o o' : Obj} {k : Sem α} {k' : Sem β} (h : ρ r = some r') (ho : OR N ok ρ o o') (hk : SR A ρ k k') : SR A ρ (.setObj r o k) (.setObj r' o' k')
 | choose {ρ : Emb} {q : Question} {k : Nat → Sem α} {k' : Nat → Sem β} (hk : ∀ n, SR A ρ (k n) (k' n)) : SR A ρ (.choose q k) (.choose q k')
 | program {ρ : Emb} {k : Program → Sem α} {k' : Program → Sem β} (hk : SR A ρ (k P) (k' (N.here P))) : SR A ρ (.program k) (.program k')
 | progL {ρ : Emb} {k : Program → Sem α} {t' : Sem β} (hk : SR A ρ (k P) t') : SR A ρ (.program k) t'
 | mark {ρ : Emb} {m : Mark} {k : Sem α} {k' : Sem β} (h : MarkOk m) (hk : SR A ρ k k') : SR A ρ (.mark m k) (.mark m k')
 | halt {ρ : Emb} {x : Halt} {t' : Sem β} (h : HaltOk x) : SR A ρ (.halt x) t'
 | doom {ρ : Emb} {t : Sem α} {t' : Sem β} (h : ∀ w, ∃ x w', t.run P w = .halt x w' ∧ HaltOk x ∧ Grow w w') : SR A ρ t t'
end
section
variable {P : Program} {N : Cfg} {ok : Code → Prop} {Poi Ro : Nat → Prop}
theorem SR.mono {α β : Type} {A B : Emb → α → β → Prop} (h : ∀ ρ a b, A ρ a b → B ρ a b) {ρ : Emb} {t : Sem α} {t' : Sem β} (ht : SR P N ok Poi A ρ t t') : SR P N ok Poi B ρ t t' := by
 induction ht with
 | pure x => exact .pure (h _ _ _ x)
 | load x _ ih => exact .load x ih
 | loadPoison x => exact .loadPoison x
 | store x y _ ih => exact .store x y ih
 | new x _ ih => exact .new x ih
 | shape x _ ih => exact .shape x ih
 | getObj x _ ih => exact .getObj x ih
 | setObj x y _ ih => exact .setObj x y ih
 | choose _ ih => exact .choose ih
 | program _ ih => exact .program ih
 | progL _ ih => exact .progL ih
 | mark x _ ih => exact .mark x ih
 | halt x => exact .halt x
 | doom x => exact .doom x
theorem run_bind_halt {α β : Type} {t : Sem α} {f : α → Sem β} {w : World} {x : Halt} {w' : World} (h : t.run P w = .halt x w') : (t >>= f).run P w = .halt x w' := by
 rw [Sem.run_bind, h]
 rfl
theorem SR.bind {α β γ δ : Type} {A : Emb → α → β → Prop} {B : Emb → γ → δ → Prop} {ρ : Emb} {t : Sem α} {t' : Sem β} {f : α → Sem γ} {f' : β → Sem δ} (ht : SR P N ok Poi A ρ t t')
  (hf : ∀ σ a b, ρ.le σ → A σ a b → SR P N ok Poi B σ (f a) (f' b)) : SR P N ok Poi B ρ (t >>= f) (t' >>= f') := by
 induction ht with
 | pure x => exact hf _ _ _ (Emb.le.refl _) x
 | load x _ ih => exact .load x fun v v' hv => ih v v' hv hf
 | loadPoison x => exact .loadPoison x
 | store x y _ ih => exact .store x y (ih hf)
 | new x _ ih => exact .new x fun n r hn hg => ih n r hn hg fun σ a b hs hab => hf σ a b ((Emb.le_add hn).trans hs) hab
 | shape x _ ih => exact .shape x fun y => ih y hf
 | getObj x _ ih => exact .getObj x fun o o' ho => ih o o' ho hf
 | setObj x y _ ih => exact .setObj x y (ih hf)
 | choose _ ih => exact .choose fun n => ih n hf
 | program _ ih => exact .program (ih hf)
 | progL _ ih => exact .progL (ih hf)
 | mark x _ ih => exact .mark x (ih hf)
 | halt x => exact .halt x
 | doom x => exact .doom fun w => let ⟨y, w', h, hy⟩ := x w; ⟨y, w', run_bind_halt h, hy⟩
end
section
variable (P : Program) (N : Cfg) (ok : Code → Prop) (Poi Ro : Nat → Prop)
structure Fr (ρ σ : Emb) (w w' : World) : Prop where
 size : w.heap.size ≤ w'.heap.size
 keep : ∀ c, c < w.heap.size → (∀ b, ρ b = some c → Ro b) → w'.heap[c]? = w.heap[c]?
 new : ∀ b c, σ b = some c → ρ b = some c ∨ w.heap.size ≤ c
 os : w'.os = w.os
 output : w'.output = w.output
 tape : w'.tape = w.tape
end
section
variable {P : Program} {N : Cfg} {ok : Code → Prop} {Poi Ro : Nat → Prop}
theorem Fr.refl (ρ : Emb) (w : World) : Fr Ro ρ ρ w w := ⟨Nat.le_refl _, fun _ _ _ => rfl, fun _ _ h => .inl h, rfl, rfl, rfl⟩
theorem Fr.trans {ρ σ τ : Emb} {w w' w'' : World} (h : Fr Ro ρ σ w w') (h' : Fr Ro σ τ w' w'') : Fr Ro ρ τ w w'' := by
 refine ⟨Nat.le_trans h.size h'.size, fun c hc hb => ?_, fun b c hb => ?_, h'.os.trans h.os, h'.output.trans h.output, h'.tape.trans h.tape⟩
 ·rw [h'.keep c (Nat.lt_of_lt_of_le hc h.size) fun b hb' => ?_, h.keep c hc hb]
  rcases h.new b c hb' with x | x
  ·exact hb b x
  ·omega
 ·rcases h'.new b c hb with x | x
  ·exact h.new b c x
  ·exact .inr (Nat.le_trans h.size x)
theorem WR.cell {ρ : Emb} {v w : World} (h : WR N ok Poi Ro ρ v w) {a : Addr} {b : Nat} (ha : ρ a.block = some b) {x : Value} (hx : v.cell? a = some x) : ∃ y, w.cell? ⟨b, a.off, a.spot⟩ = some y ∧ VR N ρ x y := by
 obtain ⟨o, o', h1, h2, ho⟩ := h.dom _ _ ha
 unfold World.cell? at hx ⊢
 simp only [h1, h2] at hx ⊢
 cases ho with
 | cells hc e hf =>
  simp only at hx ⊢
  split at hx <;> rename_i s
  ·cases hx
  ·rw [if_neg s]
   exact hc.getSome hx
 | loop => cases hx
 | number => cases hx
 | taken => cases hx
 | undeferred => cases hx
theorem WR.noCell {ρ : Emb} {v w : World} (h : WR N ok Poi Ro ρ v w) {a : Addr} {b : Nat} (ha : ρ a.block = some b) (at_ : Bool) (hx : v.cell? a = none) : (∃ x, v.farLoad P a at_ = .error x) ∧ ∀ u, ∃ x, v.farStore P a u at_ = .error x := by
 obtain ⟨o, o', h1, h2, ho⟩ := h.dom _ _ ha
 unfold World.farLoad World.farStore
 simp only [h1]
 cases ho <;> exact ⟨⟨_, rfl⟩, fun _ => ⟨_, rfl⟩⟩
theorem WR.poison {ρ : Emb} {v w : World} (h : WR N ok Poi Ro ρ v w) {a : Addr} (ha : Poi a.block) (at_ : Bool) : v.cell? a = none ∧ ∃ x, v.farLoad P a at_ = .error x := by
 obtain ⟨t, fr, e⟩ := h.poi _ ha
 constructor
 ·unfold World.cell?
  simp only [e]
  split
  ·rfl
  ·simp
 ·unfold World.farLoad
  simp only [e]
  exact ⟨_, rfl⟩
theorem WR.frozen {ρ : Emb} {v w : World} (h : WR N ok Poi Ro ρ v w) {a : Addr} {b : Nat} (ha : ρ a.block = some b) (hf : v.frozen? a = false) : w.frozen? ⟨b, a.off, a.spot⟩ = false := by
 obtain ⟨o, o', h1, h2, ho⟩ := h.dom _ _ ha
 unfold World.frozen? at hf ⊢
 simp only [h1, h2] at hf ⊢
 cases ho with
 | cells hc e hf' =>
  simp only [Bool.and_eq_false_iff, decide_eq_false_iff_not] at hf ⊢
  rename_i c c' fr fr'
  by_cases x : fr'.1 ≤ a.off
  ·by_cases y : a.off < fr'.2
   ·have := hf' a.off x y
    rcases hf with z | z
    ·exact absurd this.1 z
    ·exact absurd this.2 z
   ·exact .inr y
  ·exact .inl x
 | loop => rfl
 | number => rfl
 | taken => rfl
 | undeferred => rfl
theorem WR.notRo {ρ : Emb} {v w : World} (h : WR N ok Poi Ro ρ v w) {a : Addr} {x : Value} (hx : v.cell? a = some x) (hf : v.frozen? a = false) : ¬Ro a.block := by
 intro hr
 obtain ⟨c, e, fr, h1, h2⟩ := h.ro _ hr
 unfold World.cell? at hx
 unfold World.frozen? at hf
 simp only [h1] at hx hf
 split at hx
 ·cases hx
 ·have := h2 a.off (Array.getElem?_eq_some_iff.1 hx).1
  simp only [Bool.and_eq_false_iff, decide_eq_false_iff_not] at hf
  rcases hf with z | z
  ·exact z this.1
  ·exact z this.2
theorem setCell_obj (w : World) (a : Addr) (x : Value) (c : Nat) : (w.setCell a x).heap[c]? = if a.block = c then w.heap[c]?.map (fun | .cells cs e fr => .cells (if a.spot.isSome then cs else cs.setIfInBounds a.off x) e fr | o => o) else w.heap[c]? := by
 unfold World.setCell
 simp only [Array.getElem?_modify]
 split
 ·first
  | rfl
  | (congr 1; funext o; cases o <;> rfl)
 ·rfl
theorem WR.store {ρ : Emb} {v w : World} (h : WR N ok Poi Ro ρ v w) {a : Addr} {b : Nat} (ha : ρ a.block = some b) {x y : Value} (hx : VR N ρ x y) (hr : ¬Ro a.block) : WR N ok Poi Ro ρ (v.setCell a x) (w.setCell ⟨b, a.off, a.spot⟩ y) := by
 refine ⟨fun c d hc => ?_, h.inj, fun c hc => ?_, fun c hc => ?_, h.glob, (by simpa [World.setCell] using h.gsize), h.tape, h.drawn, h.globR, (by simpa [World.setCell] using h.gsizeR)⟩
 ·obtain ⟨o, o', h1, h2, ho⟩ := h.dom c d hc
  rw [setCell_obj, setCell_obj]
  by_cases e : a.block = c
  ·subst e
   obtain rfl : b = d := Option.some.inj (ha.symm.trans hc)
   rw [if_pos rfl, if_pos rfl, h1, h2]
   refine ⟨_, _, rfl, rfl, ?_⟩
   cases ho with
   | cells hcs e hf =>
    refine .cells ?_ e hf
    show AR _ (if a.spot.isSome then _ else _) (if a.spot.isSome then _ else _)
    split
    ·exact hcs
    ·exact hcs.set _ hx
   | loop hs hp hpo hfn ht hpa has hao hbo hbk hd => exact .loop hs hp hpo hfn ht hpa has hao hbo hbk hd
   | number x g lost => exact .number x g lost
   | taken => exact .taken
   | undeferred => exact .undeferred
  ·rw [if_neg e, if_neg (show ¬(b = d) from fun e' => e (h.inj _ _ _ ha (e' ▸ hc)))]
   exact ⟨o, o', h1, h2, ho⟩
 ·obtain ⟨t, fr, e⟩ := h.poi c hc
  rw [setCell_obj, e]
  split
  ·refine ⟨t, fr, ?_⟩
   simp
  ·exact ⟨t, fr, rfl⟩
 ·obtain ⟨cs, t, fr, e, hi⟩ := h.ro c hc
  rw [setCell_obj, if_neg (fun e' : a.block = c => hr (by rw [e']; exact hc))]
  exact ⟨cs, t, fr, e, hi⟩
end
section
variable {P : Program} {N : Cfg} {ok : Code → Prop} {Poi Ro : Nat → Prop}
theorem WR.lt {ρ : Emb} {v w : World} (h : WR N ok Poi Ro ρ v w) {b c : Nat} (hb : ρ b = some c) : b < v.heap.size ∧ c < w.heap.size := by
 obtain ⟨o, o', h1, h2, _⟩ := h.dom b c hb
 exact ⟨(Array.getElem?_eq_some_iff.1 h1).1, (Array.getElem?_eq_some_iff.1 h2).1⟩
theorem WR.fresh {ρ : Emb} {v w : World} (h : WR N ok Poi Ro ρ v w) : ρ v.heap.size = none := by
 cases e : ρ v.heap.size with
 | none => rfl
 | some c => exact absurd (h.lt e).1 (Nat.lt_irrefl _)
theorem add_get {ρ : Emb} {n r b c : Nat} (h : ρ.add n r b = some c) : (b = n ∧ c = r) ∨ (b ≠ n ∧ ρ b = some c) := by
 unfold Emb.add at h
 split at h
 ·rename_i e
  exact .inl ⟨e, (Option.some.inj h).symm⟩
 ·rename_i e
  exact .inr ⟨e, h⟩
theorem WR.new {ρ : Emb} {v w : World} (h : WR N ok Poi Ro ρ v w) {o o' : Obj} (ho : OR N ok ρ o o') :
  WR N ok Poi Ro (ρ.add v.heap.size w.heap.size) { v with heap := v.heap.push o } { w with heap := w.heap.push o' } := by
 have le := Emb.le_add (r := w.heap.size) h.fresh
 have keep : ∀ (u : World) (x o : Obj) (i : Nat), u.heap[i]? = some x → (u.heap.push o)[i]? = some x := fun u x o i hx => by
  rw [Array.getElem?_push_lt (Array.getElem?_eq_some_iff.1 hx).1]
  rw [← Array.getElem?_eq_getElem]
  exact hx
 refine ⟨fun b c hb => ?_, fun b b' c hb hb' => ?_, fun b hb => ?_, fun b hb => ?_, fun b c hb => ?_, (by have := h.gsize; simp; omega), h.tape, h.drawn, fun b c hb => ?_, (by have := h.gsizeR; simp; omega)⟩
 ·rcases add_get hb with ⟨rfl, rfl⟩ | ⟨_, hb⟩
  ·exact ⟨o, o', by simp, by simp, ho.mono le⟩
  ·obtain ⟨x, x', h1, h2, hx⟩ := h.dom b c hb
   exact ⟨x, x', keep _ _ _ _ h1, keep _ _ _ _ h2, hx.mono le⟩
 ·rcases add_get hb with ⟨rfl, rfl⟩ | ⟨_, hb⟩
  ·rcases add_get hb' with ⟨rfl, _⟩ | ⟨_, hb'⟩
   ·rfl
   ·exact absurd (h.lt hb').2 (Nat.lt_irrefl _)
  ·rcases add_get hb' with ⟨rfl, rfl⟩ | ⟨_, hb'⟩
   ·exact absurd (h.lt hb).2 (Nat.lt_irrefl _)
   ·exact h.inj b b' c hb hb'
 ·obtain ⟨t, fr, e⟩ := h.poi b hb
  exact ⟨t, fr, keep _ _ _ _ e⟩
 ·obtain ⟨c, e, fr, h1, h2⟩ := h.ro b hb
  exact ⟨c, e, fr, keep _ _ _ _ h1, h2⟩
 ·rcases add_get hb with ⟨rfl, rfl⟩ | ⟨_, hb⟩
  ·exact h.gsize
  ·exact h.glob b c hb
 ·rcases add_get hb with ⟨rfl, rfl⟩ | ⟨_, hb⟩
  ·exact h.gsizeR
  ·exact h.globR b c hb
theorem WR.setObj {ρ : Emb} {v w : World} (h : WR N ok Poi Ro ρ v w) {r r' : Nat} (hr : ρ r = some r') {x : Obj} (hx : v.heap[r]? = some x) (hc : ∀ c e fr, x ≠ .cells c e fr) {o o' : Obj} (ho : OR N ok ρ o o') :
  WR N ok Poi Ro ρ { v with heap := v.heap.setIfInBounds r o } { w with heap := w.heap.setIfInBounds r' o' } := by
 refine ⟨fun b c hb => ?_, h.inj, fun b hb => ?_, fun b hb => ?_, h.glob, (by simpa using h.gsize), h.tape, h.drawn, h.globR, (by simpa using h.gsizeR)⟩
 ·obtain ⟨y, y', h1, h2, hy⟩ := h.dom b c hb
  simp only [Array.getElem?_setIfInBounds]
  by_cases e : r = b
  ·subst e
   obtain rfl : r' = c := Option.some.inj (hr.symm.trans hb)
   rw [if_pos rfl, if_pos rfl, if_pos (h.lt hb).1, if_pos (h.lt hb).2]
   exact ⟨o, o', rfl, rfl, ho⟩
  ·rw [if_neg e, if_neg (show ¬(r' = c) from fun e' => e (h.inj _ _ _ hr (e' ▸ hb)))]
   exact ⟨y, y', h1, h2, hy⟩
 ·obtain ⟨t, fr, e⟩ := h.poi b hb
  refine ⟨t, fr, ?_⟩
  show (v.heap.setIfInBounds r o)[b]? = _
  rw [Array.getElem?_setIfInBounds, if_neg, e]
  intro e'
  subst e'
  exact hc _ _ _ (Option.some.inj (hx.symm.trans e))
 ·obtain ⟨c, e, fr, h1, h2⟩ := h.ro b hb
  refine ⟨c, e, fr, ?_, h2⟩
  show (v.heap.setIfInBounds r o)[b]? = _
  rw [Array.getElem?_setIfInBounds, if_neg, h1]
  intro e'
  subst e'
  exact hc _ _ _ (Option.some.inj (hx.symm.trans h1))
theorem EvOk.mono {σ τ : Emb} (h : σ.le τ) {e : Event} (he : EvOk Ro σ e) : EvOk Ro τ e := by
 unfold EvOk at *
 split at he
 ·obtain ⟨b, h1, h2⟩ := he
  exact ⟨b, h _ _ h1, h2⟩
 ·obtain ⟨b, h1, h2⟩ := he
  exact ⟨b, h _ _ h1, h2⟩
 ·exact he
 ·exact he.elim
theorem SR.sound {α β : Type} {A : Emb → α → β → Prop} {ρ : Emb} {t : Sem α} {t' : Sem β} (h : SR P N ok Poi A ρ t t') : ∀ {v w : World} {a : α} {v' : World}, WR N ok Poi Ro ρ v w → t.run P v = .ok a v' → ∀ es : Array Event,
  ∃ σ b w' es', ρ.le σ ∧ t'.runT (N.here P) w es = (.ok b w', es ++ es') ∧ A σ a b ∧ WR N ok Poi Ro σ v' w' ∧ (∀ e ∈ es', EvOk Ro σ e) ∧ Fr Ro ρ σ w w' ∧ v.heap.size ≤ v'.heap.size ∧ v'.os = v.os ∧ v'.output = v.output := by
 induction h with
 | pure x =>
  intro v w a v' hw hr es
  simp only [Sem.run, Result.ok.injEq] at hr
  obtain ⟨rfl, rfl⟩ := hr
  exact ⟨_, _, w, #[], Emb.le.refl _, by simp [Sem.runT], x, hw, by simp, Fr.refl _ _, Nat.le_refl _, rfl, rfl⟩
 | @load ρ m a b k k' x _ ih =>
  intro v w a' v' hw hr es
  simp only [Sem.run] at hr
  cases hc : v.cell? a with
  | none =>
   obtain ⟨y, hy⟩ := (hw.noCell (P := P) x (m == .atomic) hc).1
   rw [hc] at hr
   simp only [hy] at hr
   cases hr
  | some u =>
   rw [hc] at hr
   obtain ⟨u', h1, h2⟩ := hw.cell x hc
   obtain ⟨σ, b', w', es', g1, g2, g3, g4, g5, g6, g7⟩ := ih u u' h2 hw hr (es.push ⟨.cell ⟨b, a.off, a.spot⟩, false, m == .atomic⟩)
   refine ⟨σ, b', w', #[⟨.cell ⟨b, a.off, a.spot⟩, false, m == .atomic⟩] ++ es', g1, ?_, g3, g4, ?_, g6, g7⟩
   ·simp only [Sem.runT, h1, g2]
    rw [Array.push_eq_append, Array.append_assoc]
   ·intro e he
    rw [Array.mem_append] at he
    rcases he with he | he
    ·obtain rfl : e = _ := by simpa using he
     exact ⟨a.block, g1 _ _ x, fun h => by cases h⟩
    ·exact g5 e he
 | @loadPoison ρ m a k t' x =>
  intro v w a' v' hw hr es
  obtain ⟨h1, y, hy⟩ := hw.poison (P := P) x (m == .atomic)
  simp only [Sem.run, h1, hy] at hr
  cases hr
 | @store ρ m a b u u' k k' x hu _ ih =>
  intro v w a' v' hw hr es
  cases hc : v.cell? a with
  | none =>
   obtain ⟨y, hy⟩ := (hw.noCell (P := P) x (m == .atomic) hc).2 u
   cases u <;> simp only [Sem.run, hc, hy] at hr <;> cases hr
  | some z =>
   obtain ⟨z', h1, h2⟩ := hw.cell x hc
   by_cases hf : v.frozen? a = true
   ·cases u <;> simp only [Sem.run, hc, hf, if_true] at hr <;> cases hr
   ·have hf : v.frozen? a = false := by simpa using hf
    have hf' := hw.frozen x hf
    have nr := hw.notRo hc hf
    have hr' : k.run P (v.setCell a u) = .ok a' v' := by
     cases u <;> simp only [Sem.run, hc, hf, Bool.false_eq_true, if_false] at hr <;> first | exact hr | cases hr
    have e' : ∀ es, (Sem.store m ⟨b, a.off, a.spot⟩ u' k').runT (N.here P) w es = k'.runT (N.here P) (w.setCell ⟨b, a.off, a.spot⟩ u') (es.push ⟨.cell ⟨b, a.off, a.spot⟩, true, m == .atomic⟩) := by
     intro es
     cases hu <;> first | (simp only [Sem.runT, h1, hf', Bool.false_eq_true, if_false]; done) | (simp only [Sem.run] at hr; cases hr)
    obtain ⟨σ, b', w', es', g1, g2, g3, g4, g5, g6, g7, g8⟩ := ih (hw.store x hu nr) hr' (es.push ⟨.cell ⟨b, a.off, a.spot⟩, true, m == .atomic⟩)
    refine ⟨σ, b', w', #[⟨.cell ⟨b, a.off, a.spot⟩, true, m == .atomic⟩] ++ es', g1, ?_, g3, g4, ?_, ?_, by simpa [World.setCell] using g7, g8⟩
    ·rw [e', g2, Array.push_eq_append, Array.append_assoc]
    ·intro e he
     rw [Array.mem_append] at he
     rcases he with he | he
     ·obtain rfl : e = _ := by simpa using he
      exact ⟨a.block, g1 _ _ x, fun _ => nr⟩
     ·exact g5 e he
    ·have f1 : Fr Ro ρ ρ w (w.setCell ⟨b, a.off, a.spot⟩ u') := ⟨by simp [World.setCell], fun c hc hb => by rw [setCell_obj, if_neg (fun e : b = c => nr (hb _ (e ▸ x)))], fun _ _ h => .inl h, rfl, rfl, rfl⟩
     exact f1.trans g6
 | @new ρ o o' k k' ho _ ih =>
  intro v w a v' hw hr es
  simp only [Sem.run] at hr
  obtain ⟨σ, b', w', es', g1, g2, g3, g4, g5, g6, g7, g8⟩ := ih v.heap.size w.heap.size hw.fresh hw.gsize (hw.new ho) hr es
  refine ⟨σ, b', w', es', (Emb.le_add hw.fresh).trans g1, by simp only [Sem.runT, g2], g3, g4, g5, ?_, by simp at g7; omega, g8⟩
  have f1 : Fr Ro ρ (ρ.add v.heap.size w.heap.size) w { w with heap := w.heap.push o' } := by
   refine ⟨by simp, fun c hc _ => ?_, fun b c h => ?_, rfl, rfl, rfl⟩
   ·show (w.heap.push o')[c]? = _
    rw [Array.getElem?_push_lt hc, ← Array.getElem?_eq_getElem]
   ·rcases add_get h with ⟨_, rfl⟩ | ⟨_, h⟩
    ·exact .inr (Nat.le_refl _)
    ·exact .inl h
  exact f1.trans g6
 | @shape ρ r r' k k' x _ ih =>
  intro v w a v' hw hr es
  simp only [Sem.run] at hr
  have e : w.shape? r' = v.shape? r := by
   obtain ⟨o, o', h1, h2, ho⟩ := hw.dom _ _ x
   unfold World.shape?
   simp only [h1, h2]
   cases ho with
   | cells hc e hf => simp only [hc.1]
   | _ => rfl
  obtain ⟨σ, b', w', es', g1, g2, g3⟩ := ih (v.shape? r) hw hr es
  exact ⟨σ, b', w', es', g1, by simp only [Sem.runT, e, g2], g3⟩
 | @getObj ρ r r' k k' x _ ih =>
  intro v w a v' hw hr es
  obtain ⟨o, o', h1, h2, ho⟩ := hw.dom _ _ x
  have key : (k o).run P v = .ok a v' := by
   cases ho <;> simp only [Sem.run, h1] at hr <;> first | exact hr | cases hr
  have nc : ∀ es, (Sem.getObj r' k').runT (N.here P) w es = (k' o').runT (N.here P) w (es.push ⟨.obj r', false, o'.isChan⟩) := by
   intro es
   cases ho with
   | cells hc e hf => simp only [Sem.run, h1] at hr; cases hr
   | loop => simp only [Sem.runT, h2]
   | number => simp only [Sem.runT, h2]
   | taken => simp only [Sem.runT, h2]
   | undeferred => simp only [Sem.runT, h2]
  obtain ⟨σ, b', w', es', g1, g2, g3, g4, g5, g6⟩ := ih o o' ho hw key (es.push ⟨.obj r', false, o'.isChan⟩)
  refine ⟨σ, b', w', #[⟨.obj r', false, o'.isChan⟩] ++ es', g1, ?_, g3, g4, ?_, g6⟩
  ·rw [nc, g2, Array.push_eq_append, Array.append_assoc]
  ·intro e he
   rw [Array.mem_append] at he
   rcases he with he | he
   ·obtain rfl : e = _ := by simpa using he
    exact ⟨r, g1 _ _ x, fun h => by cases h⟩
   ·exact g5 e he
 | @setObj ρ r r' o o' k k' x ho _ ih =>
  intro v w a v' hw hr es
  obtain ⟨y, y', h1, h2, hy⟩ := hw.dom _ _ x
  have nc : ∀ c e fr, y ≠ .cells c e fr := by
   rintro c e fr rfl
   simp only [Sem.run, h1] at hr
   cases hr
  have key : k.run P { v with heap := v.heap.setIfInBounds r o } = .ok a v' := by
   cases y <;> simp only [Sem.run, h1] at hr <;> first | exact hr | exact absurd rfl (nc _ _ _)
  have nr : ¬Ro r := fun hr' => by
   obtain ⟨c, e, fr, h3, _⟩ := hw.ro r hr'
   exact nc _ _ _ (Option.some.inj (h1.symm.trans h3))
  have e' : ∀ es, (Sem.setObj r' o' k').runT (N.here P) w es = k'.runT (N.here P) { w with heap := w.heap.setIfInBounds r' o' } (es.push ⟨.obj r', true, o'.isChan⟩) := by
   intro es
   cases hy with
   | cells => exact absurd rfl (nc _ _ _)
   | loop => simp only [Sem.runT, h2]
   | number => simp only [Sem.runT, h2]
   | taken => simp only [Sem.runT, h2]
   | undeferred => simp only [Sem.runT, h2]
  obtain ⟨σ, b', w', es', g1, g2, g3, g4, g5, g6, g7, g8⟩ := ih (hw.setObj x h1 nc ho) key (es.push ⟨.obj r', true, o'.isChan⟩)
  refine ⟨σ, b', w', #[⟨.obj r', true, o'.isChan⟩] ++ es', g1, ?_, g3, g4, ?_, ?_, by simpa using g7, g8⟩
  ·rw [e', g2, Array.push_eq_append, Array.append_assoc]
  ·intro e he
   rw [Array.mem_append] at he
   rcases he with he | he
   ·obtain rfl : e = _ := by simpa using he
    exact ⟨r, g1 _ _ x, fun _ => nr⟩
   ·exact g5 e he
  ·have f1 : Fr Ro ρ ρ w { w with heap := w.heap.setIfInBounds r' o' } := ⟨by simp, fun c hc hb => by
    show (w.heap.setIfInBounds r' o')[c]? = _
    rw [Array.getElem?_setIfInBounds, if_neg (fun e : r' = c => nr (hb _ (e ▸ x)))], fun _ _ h => .inl h, rfl, rfl, rfl⟩
   exact f1.trans g6
 | @choose ρ q k k' _ ih =>
  intro v w a v' hw hr es
  simp only [Sem.run] at hr
  simp only [Sem.runT]
  split at hr <;> rename_i hq
  ·rw [if_pos hq]
   exact ih 0 hw hr es
  ·rw [if_neg hq, show w.tape w.drawn q = v.tape v.drawn q by rw [hw.tape, hw.drawn], ← hw.drawn]
   have hw' : WR N ok Poi Ro ρ { v with drawn := v.drawn + 1 } { w with drawn := v.drawn + 1 } := ⟨hw.dom, hw.inj, hw.poi, hw.ro, hw.glob, hw.gsize, hw.tape, rfl, hw.globR, hw.gsizeR⟩
   obtain ⟨σ, b', w', es', g1, g2, g3, g4, g5, g6, g7⟩ := ih _ hw' hr es
   exact ⟨σ, b', w', es', g1, g2, g3, g4, g5, ⟨g6.size, g6.keep, g6.new, g6.os, g6.output, g6.tape⟩, g7⟩
 | @program ρ k k' _ ih =>
  intro v w a v' hw hr es
  simp only [Sem.run] at hr
  simp only [Sem.runT]
  exact ih hw hr es
 | @progL ρ k t' _ ih =>
  intro v w a v' hw hr es
  simp only [Sem.run] at hr
  exact ih hw hr es
 | @mark ρ m k k' x _ ih =>
  intro v w a v' hw hr es
  simp only [Sem.run] at hr
  obtain ⟨σ, b', w', es', g1, g2, g3, g4, g5, g6⟩ := ih hw hr (es.push ⟨.mark m, false, true⟩)
  refine ⟨σ, b', w', #[⟨.mark m, false, true⟩] ++ es', g1, ?_, g3, g4, ?_, g6⟩
  ·simp only [Sem.runT, g2]
   rw [Array.push_eq_append, Array.append_assoc]
  ·intro e he
   rw [Array.mem_append] at he
   rcases he with he | he
   ·obtain rfl : e = _ := by simpa using he
    exact x
   ·exact g5 e he
 | halt =>
  intro v w a v' _ hr
  simp only [Sem.run] at hr
  cases hr
 | doom x =>
  intro v w a v' _ hr
  obtain ⟨y, w', h, _⟩ := x v
  rw [h] at hr
  cases hr
theorem stuckAt {ρ : Emb} {v w : World} (h : WR N ok Poi Ro ρ v w) {a : Addr} (ha : (∃ b, ρ a.block = some b) ∨ Poi a.block) (at_ : Bool) : (∃ x, v.farLoad P a at_ = .error x ∧ HaltOk x) ∧ ∀ u, ∃ x, v.farStore P a u at_ = .error x ∧ HaltOk x := by
 rcases ha with ⟨b, ha⟩ | ha
 ·obtain ⟨o, o', h1, h2, ho⟩ := h.dom _ _ ha
  unfold World.farLoad World.farStore World.noCell
  simp only [h1]
  cases ho <;> exact ⟨⟨_, rfl, trivial⟩, fun _ => ⟨_, rfl, trivial⟩⟩
 ·obtain ⟨t, fr, e⟩ := h.poi _ ha
  unfold World.farLoad World.farStore World.noCell
  simp only [e]
  exact ⟨⟨_, rfl, trivial⟩, fun _ => ⟨_, rfl, trivial⟩⟩
theorem WR.grow {ρ : Emb} {v w v' : World} (h : WR N ok Poi Ro ρ v w) (g : Grow v v') : WR N ok Poi Ro ρ v' { w with drawn := v'.drawn } := by
 obtain ⟨g1, g2, g3⟩ := g
 refine ⟨fun b c hb => ?_, h.inj, fun b hb => ?_, fun b hb => ?_, h.glob, Nat.le_trans h.gsize g1, g3.trans h.tape, rfl, h.globR, h.gsizeR⟩
 ·obtain ⟨o, o', h1, h2, ho⟩ := h.dom b c hb
  exact ⟨o, o', (g2 b (h.lt hb).1).trans h1, h2, ho⟩
 ·obtain ⟨t, fr, e⟩ := h.poi b hb
  exact ⟨t, fr, (g2 b (Array.getElem?_eq_some_iff.1 e).1).trans e⟩
 ·obtain ⟨c, e, fr, h1, h2⟩ := h.ro b hb
  exact ⟨c, e, fr, (g2 b (Array.getElem?_eq_some_iff.1 h1).1).trans h1, h2⟩
theorem SR.halts {α β : Type} {A : Emb → α → β → Prop} {ρ : Emb} {t : Sem α} {t' : Sem β} (h : SR P N ok Poi A ρ t t') : ∀ {v w : World} {x : Halt} {v' : World}, WR N ok Poi Ro ρ v w → t.run P v = .halt x v' → HaltOk x ∧ ∃ σ w', ρ.le σ ∧ WR N ok Poi Ro σ v' w' := by
 induction h with
 | pure y =>
  intro v w x v' _ hr
  simp only [Sem.run] at hr
  cases hr
 | @load ρ m a b k k' y _ ih =>
  intro v w x v' hw hr
  simp only [Sem.run] at hr
  cases hc : v.cell? a with
  | none =>
   obtain ⟨z, hz, h⟩ := (stuckAt (P := P) hw (.inl ⟨b, y⟩) (m == .atomic)).1
   rw [hc] at hr
   simp only [hz] at hr
   cases hr
   exact ⟨h, _, _, Emb.le.refl _, hw⟩
  | some u =>
   rw [hc] at hr
   obtain ⟨u', _, h2⟩ := hw.cell y hc
   exact ih u u' h2 hw hr
 | @loadPoison ρ m a k t' y =>
  intro v w x v' hw hr
  have h1 := (hw.poison (P := P) y (m == .atomic)).1
  obtain ⟨z, hz, h⟩ := (stuckAt (P := P) hw (.inr y) (m == .atomic)).1
  simp only [Sem.run, h1, hz] at hr
  cases hr
  exact ⟨h, _, _, Emb.le.refl _, hw⟩
 | @store ρ m a b u u' k k' y hu _ ih =>
  intro v w x v' hw hr
  cases hc : v.cell? a with
  | none =>
   obtain ⟨z, hz, h⟩ := (stuckAt (P := P) hw (.inl ⟨b, y⟩) (m == .atomic)).2 u
   cases u <;> simp only [Sem.run, hc, hz] at hr <;> cases hr <;> first | exact ⟨h, _, _, Emb.le.refl _, hw⟩ | exact ⟨trivial, _, _, Emb.le.refl _, hw⟩
  | some z =>
   by_cases hf : v.frozen? a = true
   ·cases u <;> simp only [Sem.run, hc, hf, if_true] at hr <;> cases hr <;> exact ⟨trivial, _, _, Emb.le.refl _, hw⟩
   ·have hf : v.frozen? a = false := by simpa using hf
    have nr := hw.notRo hc hf
    have key : (HaltOk x ∧ v' = v) ∨ k.run P (v.setCell a u) = .halt x v' := by
     cases u <;> simp only [Sem.run, hc, hf, Bool.false_eq_true, if_false] at hr <;> first | exact .inr hr | (cases hr; exact .inl ⟨trivial, rfl⟩)
    rcases key with ⟨key, rfl⟩ | key
    ·exact ⟨key, _, _, Emb.le.refl _, hw⟩
    ·exact ih (hw.store y hu nr) key
 | @new ρ o o' k k' ho _ ih =>
  intro v w x v' hw hr
  simp only [Sem.run] at hr
  obtain ⟨h1, σ, w', h2, h3⟩ := ih v.heap.size w.heap.size hw.fresh hw.gsize (hw.new ho) hr
  exact ⟨h1, σ, w', (Emb.le_add hw.fresh).trans h2, h3⟩
 | @shape ρ r r' k k' y _ ih =>
  intro v w x v' hw hr
  simp only [Sem.run] at hr
  exact ih (v.shape? r) hw hr
 | @getObj ρ r r' k k' y _ ih =>
  intro v w x v' hw hr
  obtain ⟨o, o', h1, h2, ho⟩ := hw.dom _ _ y
  cases ho <;> simp only [Sem.run, h1] at hr
  ·cases hr
   exact ⟨trivial, _, _, Emb.le.refl _, hw⟩
  ·rename_i l l' hs hp hpo hfn ht hpa has hao hbo hbk hd
   exact ih _ _ (.loop hs hp hpo hfn ht hpa has hao hbo hbk hd) hw hr
  ·rename_i x g lost
   exact ih _ _ (.number x g lost) hw hr
  ·exact ih _ _ .taken hw hr
  ·exact ih _ _ .undeferred hw hr
 | @setObj ρ r r' o o' k k' y ho _ ih =>
  intro v w x v' hw hr
  obtain ⟨z, z', h1, h2, hz⟩ := hw.dom _ _ y
  cases hz <;> simp only [Sem.run, h1] at hr
  ·cases hr
   exact ⟨trivial, _, _, Emb.le.refl _, hw⟩
  all_goals exact ih (hw.setObj y h1 (fun c e fr h => by cases h) ho) hr
 | @choose ρ q k k' _ ih =>
  intro v w x v' hw hr
  simp only [Sem.run] at hr
  split at hr
  ·exact ih 0 hw hr
  ·have hw' : WR N ok Poi Ro ρ { v with drawn := v.drawn + 1 } { w with drawn := v.drawn + 1 } := ⟨hw.dom, hw.inj, hw.poi, hw.ro, hw.glob, hw.gsize, hw.tape, rfl, hw.globR, hw.gsizeR⟩
   exact ih _ hw' hr
 | @program ρ k k' _ ih =>
  intro v w x v' hw hr
  simp only [Sem.run] at hr
  exact ih hw hr
 | @progL ρ k t' _ ih =>
  intro v w x v' hw hr
  simp only [Sem.run] at hr
  exact ih hw hr
 | @mark ρ m k k' y _ ih =>
  intro v w x v' hw hr
  simp only [Sem.run] at hr
  exact ih hw hr
 | halt y =>
  intro v w x v' hw hr
  simp only [Sem.run] at hr
  cases hr
  exact ⟨y, _, _, Emb.le.refl _, hw⟩
 | doom y =>
  intro v w x v' hw hr
  obtain ⟨z, w', h, hz, g⟩ := y v
  rw [h] at hr
  cases hr
  exact ⟨hz, _, _, Emb.le.refl _, hw.grow g⟩
end
end Go.Proofs.Ytjgleaakgbnjgaa.Par
end

section
namespace Go.Proofs.Ytjgleaakgbnjgaa.Par
open Go
section
variable {P : Program} {N : Cfg} {ok : Code → Prop} {Poi : Nat → Prop} {ρ : Emb}
theorem sr_stuck {α β : Type} {A : Emb → α → β → Prop} (s : String) (t' : Sem β) : SR P N ok Poi A ρ (stuck s) t' := .halt trivial
theorem run_elemOf (t : TypeId) (w : World) : (∃ e, (elemOf t).run P w = .ok e w) ∨ ∃ x, (elemOf t).run P w = .halt x w ∧ HaltOk x := by
 unfold elemOf underlying program
 simp only [Sem.run_bind, Sem.run, Result.andThen_ok]
 cases P.underlying t with
 | none => exact .inr ⟨_, rfl, trivial⟩
 | some d => cases d <;> first | exact .inl ⟨_, rfl⟩ | exact .inr ⟨_, rfl, trivial⟩
theorem Grow.push (w : World) (o : Obj) : Grow w { w with heap := w.heap.push o } := by
 refine ⟨by simp, fun b hb => ?_, rfl⟩
 show (w.heap.push o)[b]? = _
 rw [Array.getElem?_push_lt hb, ← Array.getElem?_eq_getElem]
theorem run_runtimePanic {α : Type} (e : RuntimeError) (w : World) : ∃ x w', (runtimePanic e : Sem α).run P w = .halt x w' ∧ HaltOk x ∧ Grow w w' := by
 unfold runtimePanic program
 simp only [Sem.run_bind, Sem.run, Result.andThen_ok]
 cases e with
 | typeAssertion i c a m =>
  rcases run_elemOf (P := P) P.rt.typeAssertionError w with ⟨e, h⟩ | ⟨x, h, hx⟩
  ·simp only [Sem.run_bind, h, Result.andThen_ok]
   exact ⟨_, _, rfl, trivial, Grow.push _ _⟩
  ·simp only [Sem.run_bind, h, Result.andThen_halt]
   exact ⟨_, _, rfl, hx, Grow.refl _⟩
 | panicNil =>
  rcases run_elemOf (P := P) P.rt.panicNilError w with ⟨e, h⟩ | ⟨x, h, hx⟩
  ·simp only [Sem.run_bind, h, Result.andThen_ok]
   exact ⟨_, _, rfl, trivial, Grow.push _ _⟩
  ·simp only [Sem.run_bind, h, Result.andThen_halt]
   exact ⟨_, _, rfl, hx, Grow.refl _⟩
 | _ => exact ⟨_, _, rfl, trivial, Grow.refl _⟩
theorem sr_runtimePanic {α β : Type} {A : Emb → α → β → Prop} (e : RuntimeError) (t' : Sem β) : SR P N ok Poi A ρ (runtimePanic e : Sem α) t' := .doom fun w => run_runtimePanic e w
theorem sr_boundsPanic {α β : Type} {A : Emb → α → β → Prop} (k : IntKind) (x y : Int) (c : BoundsCode) (t' : Sem β) : SR P N ok Poi A ρ (boundsPanic k x y c : Sem α) t' := by
 refine .doom fun w => ?_
 unfold boundsPanic
 have key : ∀ (s : Sem Bool), (∃ b w', s.run P w = .ok b w' ∧ Grow w w') → ∃ x_1 w', (s >>= fun signed => (runtimePanic (.bounds (IntKind.i64.wrap x) y signed c) : Sem α)).run P w = .halt x_1 w' ∧ HaltOk x_1 ∧ Grow w w' := by
  rintro s ⟨b, w', h, g⟩
  rw [Sem.run_bind, h, Result.andThen_ok]
  obtain ⟨x, w2, h1, h2, g1, g2, g3⟩ := run_runtimePanic (P := P) (α := α) (.bounds (IntKind.i64.wrap x) y b c) w'
  exact ⟨x, w2, h1, h2, Nat.le_trans g.1 g1, fun b hb => (g2 b (Nat.lt_of_lt_of_le hb g.1)).trans (g.2.1 b hb), g3.trans g.2.2⟩
 dsimp only
 split
 ·apply key
  rw [Sem.run_map]
  unfold choose
  simp only [Sem.run]
  split <;> exact ⟨_, _, rfl, Nat.le_refl _, fun _ _ => rfl, rfl⟩
 ·apply key
  exact ⟨_, _, rfl, Grow.refl _⟩
theorem sr_typeInfo (t : TypeId) : SR P N ok Poi (fun _ a b => a = b) ρ (typeInfo t) (typeInfo t) := by
 unfold typeInfo
 refine .program ?_
 show SR _ _ _ _ _ _ (match P.info? t with | some i => pure i | none => stuck "no such type") (match P.info? t with | some i => pure i | none => stuck "no such type")
 split
 ·exact .pure rfl
 ·exact sr_stuck _ _
theorem sr_underlying (t : TypeId) : SR P N ok Poi (fun _ a b => a = b ∧ P.underlying t = some a) ρ (underlying t) (underlying t) := by
 unfold underlying
 refine .program ?_
 show SR _ _ _ _ _ _ (match P.underlying t with | some i => pure i | none => stuck "no such type") (match P.underlying t with | some i => pure i | none => stuck "no such type")
 split
 ·rename_i h
  exact .pure ⟨rfl, h⟩
 ·exact sr_stuck _ _
theorem sr_sizeOf (t : TypeId) : SR P N ok Poi (fun _ a b => a = b) ρ (sizeOf t) (sizeOf t) := by
 unfold sizeOf
 refine (sr_typeInfo t).bind fun σ a b _ h => ?_
 subst h
 exact .pure rfl
theorem sr_isAgg (t : TypeId) : SR P N ok Poi (fun _ a b => a = b) ρ (isAgg t) (isAgg t) := by
 unfold isAgg
 refine (sr_underlying t).bind fun σ a b _ h => ?_
 obtain ⟨rfl, _⟩ := h
 split <;> exact .pure rfl
def plain1 : Value → Bool
 | .bool _ | .int _ _ | .string _ | .pointer none | .slice none _ _ | .map none | .chan none | .nilFunc | .nilIface => true
 | _ => false
theorem VR.plain1 {v : Value} (h : plain1 v = true) : VR N ρ v v := by
 unfold Par.plain1 at h
 split at h <;> first | constructor | cases h
def plain : Value → Bool
 | .agg cs => cs.all plain1
 | .tuple cs => cs.all plain1
 | v => plain1 v
theorem VR.plain {v : Value} (h : plain v = true) : VR N ρ v v := by
 have arr : ∀ {cs : Array Value}, cs.all Par.plain1 = true → ∀ (i : Nat) (v v' : Value), cs[i]? = some v → cs[i]? = some v' → VR N ρ v v' := by
  intro cs h i v v' h1 h2
  rw [h1] at h2
  cases h2
  rw [Array.all_eq_true_iff_forall_mem] at h
  exact VR.plain1 (h v (Array.mem_of_getElem? h1))
 unfold Par.plain at h
 split at h
 ·exact .agg rfl (arr h)
 ·exact .tuple rfl (arr h)
 ·exact VR.plain1 h
def zeroOk (P : Program) (t : TypeId) : Bool :=
 match P.info? t with
 | some i => match i.zero with | some v => plain v | none => true
 | none => true
theorem sr_zeroValue {t : TypeId} (h : zeroOk P t = true) : SR P N ok Poi (fun σ a b => VR N σ a b) ρ (zeroValue t) (zeroValue t) := by
 unfold zeroValue
 unfold typeInfo
 refine .program ?_
 unfold zeroOk at h
 show SR _ _ _ _ _ _ ((match P.info? t with | some i => pure i | none => stuck "no such type") >>= fun i => match i.zero with | some v => pure v | none => unsupported _) ((match P.info? t with | some i => pure i | none => stuck "no such type") >>= fun i => match i.zero with | some v => pure v | none => unsupported _)
 cases hi : P.info? t with
 | none => exact .halt trivial
 | some i =>
  rw [hi] at h
  simp only at h
  show SR _ _ _ _ _ _ (match i.zero with | some v => pure v | none => unsupported _) (match i.zero with | some v => pure v | none => unsupported _)
  cases hz : i.zero with
  | none => exact .halt trivial
  | some v =>
   rw [hz] at h
   exact .pure (VR.plain h)
def AdR (N : Cfg) (ρ : Emb) (a a' : Addr) : Prop := ρ a.block = some a'.block ∧ a'.off = a.off ∧ a'.spot = a.spot ∧ N.G ≤ a.block
theorem AdR.mono {ρ σ : Emb} (h : ρ.le σ) {a a' : Addr} (x : AdR N ρ a a') : AdR N σ a a' := ⟨h _ _ x.1, x.2⟩
theorem AdR.eq {a a' : Addr} (h : AdR N ρ a a') : a' = ⟨a'.block, a.off, a.spot⟩ := by
 obtain ⟨_, h1, h2, _⟩ := h
 cases a'
 simp only at h1 h2
 rw [h1, h2]
theorem AdR.add {a a' : Addr} (h : AdR N ρ a a') (n : Nat) : AdR N ρ (a.add n) (a'.add n) := by
 unfold Addr.add
 split
 ·exact h
 ·exact ⟨h.1, by simp [h.2.1], rfl, h.2.2.2⟩
theorem AdR.ptr {a a' : Addr} (h : AdR N ρ a a') : VR N ρ (.pointer (some a)) (.pointer (some a')) := by
 rw [h.eq]
 exact .ptr h.1 h.2.2.2
theorem AdR.slice {a a' : Addr} (h : AdR N ρ a a') (n c : Nat) : VR N ρ (.slice (some a) n c) (.slice (some a') n c) := by
 rw [h.eq]
 exact .slice h.1 h.2.2.2 n c
theorem sr_load {a a' : Addr} (h : AdR N ρ a a') : SR P N ok Poi (fun σ a b => VR N σ a b) ρ (Go.load a) (Go.load a') := by
 rw [h.eq]
 exact .load h.1 fun v v' hv => .pure hv
theorem sr_store {a a' : Addr} (h : AdR N ρ a a') {v v' : Value} (hv : VR N ρ v v') : SR P N ok Poi (fun _ _ _ => True) ρ (Go.store a v) (Go.store a' v') := by
 rw [h.eq]
 exact .store h.1 hv (.pure trivial)
theorem sr_loadCellsFrom {a a' : Addr} : ∀ (n i : Nat) {ρ : Emb} {acc acc' : Array Value}, AdR N ρ a a' → AR (VR N ρ) acc acc' → SR P N ok Poi (fun σ a b => AR (VR N σ) a b) ρ (loadCellsFrom a i n acc) (loadCellsFrom a' i n acc')
 | 0, i, ρ, acc, acc', h, hacc => .pure hacc
 | n + 1, i, ρ, acc, acc', h, hacc => (sr_load (h.add i)).bind fun σ v v' hσ hv => sr_loadCellsFrom n (i + 1) (h.mono hσ) ((hacc.mono fun _ _ x => x.mono hσ).push hv)
theorem sr_loadCells {a a' : Addr} (h : AdR N ρ a a') (n : Nat) : SR P N ok Poi (fun σ a b => AR (VR N σ) a b) ρ (loadCells a n) (loadCells a' n) := sr_loadCellsFrom n 0 h .empty
inductive LR {α β : Type} (R : α → β → Prop) : List α → List β → Prop
 | nil : LR R [] []
 | cons {a : α} {b : β} {l : List α} {m : List β} (h : R a b) (ht : LR R l m) : LR R (a :: l) (b :: m)
theorem LR.mono {α β : Type} {R S : α → β → Prop} (hs : ∀ a b, R a b → S a b) {l : List α} {m : List β} (h : LR R l m) : LR S l m := by
 induction h with
 | nil => exact .nil
 | cons h _ ih => exact .cons (hs _ _ h) ih
theorem LR.ofGet {α β : Type} {R : α → β → Prop} : ∀ (l : List α) (m : List β), l.length = m.length → (∀ (i : Nat) (a : α) (b : β), l[i]? = some a → m[i]? = some b → R a b) → LR R l m
 | [], [], _, _ => .nil
 | [], _ :: _, h, _ => by simp at h
 | _ :: _, [], h, _ => by simp at h
 | a :: l, b :: m, h, x => .cons (x 0 a b rfl rfl) (LR.ofGet l m (by simpa using h) fun i c d hc hd => x (i + 1) c d (by simpa using hc) (by simpa using hd))
theorem AR.toList {α β : Type} {R : α → β → Prop} {a : Array α} {b : Array β} (h : AR R a b) : LR R a.toList b.toList := LR.ofGet _ _ (by simpa using h.1) fun i x y hx hy => h.2 i x y (by simpa using hx) (by simpa using hy)
theorem sr_storeCells {a a' : Addr} {vs vs' : List Value} : ∀ {ρ : Emb} (i : Nat), AdR N ρ a a' → LR (VR N ρ) vs vs' → SR P N ok Poi (fun _ _ _ => True) ρ (storeCells a vs i) (storeCells a' vs' i) := by
 induction vs generalizing vs' with
 | nil =>
  intro ρ i h hv
  cases hv
  exact .pure trivial
 | cons v rest ih =>
  intro ρ i h hv
  cases hv with
  | cons h1 h2 => exact (sr_store (h.add i) h1).bind fun σ _ _ hσ _ => ih (i + 1) (h.mono hσ) (h2.mono fun _ _ x => x.mono hσ)
theorem sr_loadVar {a a' : Addr} (t : TypeId) (h : AdR N ρ a a') : SR P N ok Poi (fun σ a b => VR N σ a b) ρ (loadVar t a) (loadVar t a') := by
 unfold loadVar
 refine (sr_isAgg t).bind fun σ b b' hσ hb => ?_
 subst hb
 split
 ·refine (sr_sizeOf t).bind fun τ n n' hτ hn => ?_
  subst hn
  refine (sr_loadCells ((h.mono hσ).mono hτ) n).bind fun υ x y _ hx => ?_
  exact .pure (VR.ofAgg hx)
 ·exact sr_load (h.mono hσ)
theorem sr_storeVar {a a' : Addr} (t : TypeId) (h : AdR N ρ a a') {v v' : Value} (hv : VR N ρ v v') : SR P N ok Poi (fun _ _ _ => True) ρ (storeVar t a v) (storeVar t a' v') := by
 unfold storeVar
 refine (sr_sizeOf t).bind fun σ n n' hσ hn => ?_
 subst hn
 have hc := (hv.mono hσ).cells
 rw [← hc.1]
 split
 ·exact sr_stuck _ _
 ·exact sr_storeCells 0 (h.mono hσ) hc.toList
theorem sr_newRow (e : TypeId) {c c' : Array Value} (h : AR (VR N ρ) c c') : SR P N ok Poi (fun σ a b => AdR N σ a b) ρ (newRow e c) (newRow e c') := by
 unfold newRow
 refine SR.bind (A := fun σ n r => σ n = some r ∧ N.G ≤ n) (.new (.cells h e (fun i x y => by omega)) fun n r hn hg => .pure ⟨Emb.add_new _ _ _, hg⟩) fun σ n r hσ hn => ?_
 exact .pure ⟨hn.1, rfl, rfl, hn.2⟩
theorem sr_newVar (t : TypeId) {v v' : Value} (h : VR N ρ v v') : SR P N ok Poi (fun σ a b => AdR N σ a b) ρ (newVar t v) (newVar t v') := sr_newRow t h.cells
end
end Go.Proofs.Ytjgleaakgbnjgaa.Par
end

section
namespace Go.Proofs.Ytjgleaakgbnjgaa.Par
open Go
section
variable {P : Program} {N : Cfg} {ok : Code → Prop} {Poi : Nat → Prop} {ρ : Emb}
theorem sr_sureAddr {v v' : Value} (h : VR N ρ v v') : SR P N ok Poi (fun σ a b => AdR N σ a b) ρ (Instr.sureAddr v) (Instr.sureAddr v') := by
 cases h with
 | ptr h g => exact .pure ⟨h, rfl, rfl, g⟩
 | _ => exact .halt trivial
theorem sr_asIntOf {v v' : Value} (h : VR N ρ v v') : SR P N ok Poi (fun _ a b => a = b) ρ (asIntOf v) (asIntOf v') := by
 cases h with
 | int k n => exact .pure rfl
 | _ => exact .halt trivial
theorem sr_asInt {v v' : Value} (h : VR N ρ v v') : SR P N ok Poi (fun _ a b => a = b) ρ (asInt v) (asInt v') := by
 unfold asInt
 refine (sr_asIntOf h).bind fun σ a b _ e => ?_
 subst e
 exact .pure rfl
theorem sr_asBool {v v' : Value} (h : VR N ρ v v') : SR P N ok Poi (fun _ a b => a = b) ρ (asBool v) (asBool v') := by
 cases h with
 | bool b => exact .pure rfl
 | _ => exact .halt trivial
theorem sr_asAgg {v v' : Value} (h : VR N ρ v v') : SR P N ok Poi (fun σ a b => AR (VR N σ) a b) ρ (asAgg v) (asAgg v') := by
 cases h with
 | agg sx hx => exact .pure ⟨sx, hx⟩
 | _ => exact .halt trivial
theorem sr_part (t : TypeId) {cs cs' : Array Value} (h : AR (VR N ρ) cs cs') (off : Nat) : SR P N ok Poi (fun σ a b => VR N σ a b) ρ (part t cs off) (part t cs' off) := by
 unfold part
 refine (sr_isAgg t).bind fun σ b b' hσ hb => ?_
 subst hb
 split
 ·refine (sr_sizeOf t).bind fun τ n n' hτ hn => ?_
  subst hn
  exact .pure (VR.ofAgg ((h.mono fun _ _ x => x.mono (hσ.trans hτ)).extract off _))
 ·cases e : cs[off]? with
  | none => exact .halt trivial
  | some x =>
   obtain ⟨y, h1, h2⟩ := h.getSome e
   rw [h1]
   exact .pure (h2.mono hσ)
theorem sr_alloc {t : TypeId} (hz : zeroOk P t = true) : SR P N ok Poi (fun σ a b => VR N σ a b) ρ (Instr.alloc t true (.tuple #[])) (Instr.alloc t true (.tuple #[])) := by
 unfold Instr.alloc
 refine (sr_zeroValue hz).bind fun σ z z' hσ h => ?_
 refine (sr_newVar t h).bind fun τ a a' hτ ha => ?_
 exact .pure ha.ptr
theorem sr_box (t : TypeId) {v v' : Value} (h : VR N ρ v v') : SR P N ok Poi (fun σ a b => VR N σ a b) ρ (Instr.box t v) (Instr.box t v') := by
 unfold Instr.box
 refine (sr_newVar t h).bind fun τ a a' hτ ha => ?_
 exact .pure ha.ptr
theorem sr_loadAt (t : TypeId) {v v' : Value} (h : VR N ρ v v') : SR P N ok Poi (fun σ a b => VR N σ a b) ρ (Instr.loadAt t v) (Instr.loadAt t v') := by
 unfold Instr.loadAt
 exact (sr_sureAddr h).bind fun σ a a' _ ha => sr_loadVar t ha
theorem sr_storeAt (t : TypeId) {a a' v v' : Value} (ha : VR N ρ a a') (h : VR N ρ v v') : SR P N ok Poi (fun _ _ _ => True) ρ (Instr.storeAt t a v) (Instr.storeAt t a' v') := by
 unfold Instr.storeAt
 exact (sr_sureAddr ha).bind fun σ x x' hσ hx => sr_storeVar t hx (h.mono hσ)
def flat (P : Program) (t : TypeId) : Bool := match P.underlying t with | some (.struct _) | some (.array _ _) => false | _ => true
theorem sr_loadPoison {t : TypeId} {g : Nat} (hg : Poi g) (hs : flat P t = true) (v' : Value) : SR P N ok Poi (fun σ a b => VR N σ a b) ρ (Instr.loadAt t (.pointer (some ⟨g, 0, none⟩))) (Instr.loadAt t v') := by
 have key : ∀ {β : Type} (t' : Sem β) {A : Emb → Value → β → Prop}, SR P N ok Poi A ρ (Instr.loadAt t (.pointer (some ⟨g, 0, none⟩))) t' := by
  intro β t' A
  have e : Instr.loadAt t (.pointer (some ⟨g, 0, none⟩)) = (underlying t >>= fun d => (match d with | .struct _ => pure true | .array _ _ => pure true | _ => pure false) >>= fun b => if b then (do pure (.agg (← loadCells ⟨g, 0, none⟩ (← sizeOf t)))) else Go.load ⟨g, 0, none⟩) := by
   unfold Instr.loadAt Instr.sureAddr loadVar isAgg
   rw [pure_bind, bind_assoc]
   rfl
  rw [e]
  unfold underlying
  unfold flat at hs
  refine .progL ?_
  show SR _ _ _ _ _ _ ((match P.underlying t with | some i => pure i | none => stuck "no such type") >>= fun d => (match d with | .struct _ => pure true | .array _ _ => pure true | _ => pure false) >>= fun b => if b then (do pure (.agg (← loadCells ⟨g, 0, none⟩ (← sizeOf t)))) else Go.load ⟨g, 0, none⟩) _
  cases hu : P.underlying t with
  | none => exact .halt trivial
  | some d =>
   rw [hu] at hs
   cases d <;> first | (simp at hs; done) | exact .loadPoison hg
 exact key _
theorem sr_mapM {α β : Type} (f : α → Sem β) (hf : ∀ x σ, SR P N ok Poi (fun _ a b => a = b) σ (f x) (f x)) (xs : Array α) : SR P N ok Poi (fun _ a b => a = b) ρ (xs.mapM f) (xs.mapM f) := by
 have key : ∀ (l : List α) (acc : List β) (σ : Emb), SR P N ok Poi (fun _ a b => a = b) σ (List.mapM.loop f l acc) (List.mapM.loop f l acc) := by
  intro l
  induction l with
  | nil => intro acc σ; exact .pure rfl
  | cons x l ih =>
   intro acc σ
   refine (hf x σ).bind fun τ a b _ e => ?_
   subst e
   exact ih _ _
 rw [Array.mapM_eq_mapM_toList]
 have k2 := key xs.toList [] ρ
 refine SR.bind (A := fun _ a b => a = b) k2 fun τ a b _ e => ?_
 subst e
 exact .pure rfl
theorem AR.foldSet {cs cs' : Array Value} (h : AR (VR N ρ) cs cs') (off : Nat) {vs vs' : Array Value} (hv : AR (VR N ρ) vs vs') : AR (VR N ρ) (vs.zipIdx.foldl (fun cs (c, j) => cs.setIfInBounds (off + j) c) cs) (vs'.zipIdx.foldl (fun cs (c, j) => cs.setIfInBounds (off + j) c) cs') := by
 have key : ∀ (l l' : List Value), LR (VR N ρ) l l' → ∀ (k : Nat) (cs cs' : Array Value), AR (VR N ρ) cs cs' → AR (VR N ρ) ((l.zipIdx k).foldl (fun cs (c, j) => cs.setIfInBounds (off + j) c) cs) ((l'.zipIdx k).foldl (fun cs (c, j) => cs.setIfInBounds (off + j) c) cs') := by
  intro l l' hl
  induction hl with
  | nil => intro k cs cs' h; exact h
  | cons h1 _ ih => intro k cs cs' h; exact ih (k + 1) _ _ (h.set _ h1)
 have := key _ _ hv.toList 0 cs cs' h
 rw [← Array.foldl_toList, ← Array.foldl_toList, Array.toList_zipIdx, Array.toList_zipIdx]
 exact this
theorem fill_rel (place : Nat → Option (Nat × Nat)) : ∀ (l l' : List (Nat × Value)), LR (fun x y => x.1 = y.1 ∧ VR N ρ x.2 y.2) l l' → ∀ {cs cs' : Array Value}, AR (VR N ρ) cs cs' →
  (Instr.fill place cs l = none ∧ Instr.fill place cs' l' = none) ∨ ∃ d d', Instr.fill place cs l = some d ∧ Instr.fill place cs' l' = some d' ∧ AR (VR N ρ) d d' := by
 intro l l' hl
 induction hl with
 | nil => intro cs cs' h; exact .inr ⟨_, _, rfl, rfl, h⟩
 | @cons x y l m h1 _ ih =>
  intro cs cs' h
  obtain ⟨i, u⟩ := x
  obtain ⟨j, u'⟩ := y
  obtain ⟨e, hu⟩ := h1
  simp only at e hu
  subst e
  unfold Instr.fill
  cases place i with
  | none => exact .inl ⟨rfl, rfl⟩
  | some os =>
   obtain ⟨off, size⟩ := os
   simp only
   have hc := hu.cells
   rw [← hc.1, ← h.1]
   split
   ·exact .inl ⟨rfl, rfl⟩
   ·exact ih (h.foldSet off hc)
theorem sr_build {t : TypeId} (hz : zeroOk P t = true) {parts parts' : Array (Nat × Value)} (hp : AR (fun x y => x.1 = y.1 ∧ VR N ρ x.2 y.2) parts parts') : SR P N ok Poi (fun σ a b => VR N σ a b) ρ (Instr.build t parts) (Instr.build t parts') := by
 unfold Instr.build
 refine (sr_zeroValue hz).bind fun σ z z' hσ hz => ?_
 refine (sr_underlying t).bind fun τ d d' hτ hd => ?_
 obtain ⟨rfl, _⟩ := hd
 split
 ·rename_i fields _
  refine (sr_mapM _ (fun f υ => (sr_sizeOf f.type).bind fun _ a b _ e => by subst e; exact .pure rfl) fields).bind fun υ p p' hυ e => ?_
  subst e
  have hz' := ((hz.mono (hτ.trans hυ))).cells
  rcases fill_rel (N := N) (ρ := υ) (p[·]?) _ _ ((hp.mono fun _ _ x => ⟨x.1, x.2.mono (hσ.trans (hτ.trans hυ))⟩).toList) hz' with ⟨e1, e2⟩ | ⟨c, c', e1, e2, h⟩
  ·rw [e1, e2]
   exact sr_stuck _ _
  ·rw [e1, e2]
   exact .pure (VR.ofAgg h)
 ·rename_i elem _
  refine (sr_sizeOf elem).bind fun υ s s' hυ e => ?_
  subst e
  have hz' := ((hz.mono (hτ.trans hυ))).cells
  rcases fill_rel (N := N) (ρ := υ) (fun i => some (i * s, s)) _ _ ((hp.mono fun _ _ x => ⟨x.1, x.2.mono (hσ.trans (hτ.trans hυ))⟩).toList) hz' with ⟨e1, e2⟩ | ⟨c, c', e1, e2, h⟩
  ·rw [e1, e2]
   exact sr_stuck _ _
  ·rw [e1, e2]
   exact .pure (VR.ofAgg h)
 ·exact sr_stuck _ _
end
end Go.Proofs.Ytjgleaakgbnjgaa.Par
end

section
namespace Go.Proofs.Ytjgleaakgbnjgaa.Par
open Go
section
variable {P : Program} {N : Cfg} {ok : Code → Prop} {Poi : Nat → Prop} {ρ : Emb}
abbrev RV (N : Cfg) : Emb → Value → Value → Prop := fun σ a b => VR N σ a b
abbrev RE {α : Type} : Emb → α → α → Prop := fun _ a b => a = b
theorem sr_shape {r r' : Nat} (h : ρ r = some r') : SR P N ok Poi RE ρ (shape r) (shape r') := .shape h fun x => .pure rfl
theorem sr_viewAt {r r' : Nat} (h : ρ r = some r') : SR P N ok Poi (fun _ a b => a = none ∧ b = none) ρ (viewAt r) (viewAt r') := by
 unfold viewAt
 refine (sr_shape h).bind fun σ a b hσ e => ?_
 subst e
 split
 ·exact .pure ⟨rfl, rfl⟩
 ·show SR _ _ _ _ _ _ (getObj r >>= fun o => match o with | .view a t => pure (some (a, t)) | _ => pure none) (getObj r' >>= fun o => match o with | .view a t => pure (some (a, t)) | _ => pure none)
  refine SR.bind (A := fun τ o o' => OR N ok τ o o') (.getObj (hσ _ _ h) fun o o' ho => .pure ho) fun τ o o' _ ho => ?_
  cases ho <;> exact .pure ⟨rfl, rfl⟩
theorem sr_numberAt {r r' : Nat} (h : ρ r = some r') : SR P N ok Poi (fun σ a b => (a = none ∧ b = none) ∨ ∃ x x' l, a = some (x, l) ∧ b = some (x', l) ∧ AdR N σ x x') ρ (numberAt r) (numberAt r') := by
 unfold numberAt
 refine (sr_shape h).bind fun σ a b hσ e => ?_
 subst e
 split
 ·exact .pure (.inl ⟨rfl, rfl⟩)
 ·show SR _ _ _ _ _ _ (getObj r >>= fun o => match o with | .number a t => pure (some (a, t)) | _ => pure none) (getObj r' >>= fun o => match o with | .number a t => pure (some (a, t)) | _ => pure none)
  refine SR.bind (A := fun τ o o' => OR N ok τ o o') (.getObj (hσ _ _ h) fun o o' ho => .pure ho) fun τ o o' _ ho => ?_
  cases ho <;> first | exact .pure (.inl ⟨rfl, rfl⟩) | (rename_i x g l; exact .pure (.inr ⟨_, _, _, rfl, rfl, x, rfl, rfl, g⟩))
theorem sr_behind {a a' : Addr} (h : AdR N ρ a a') : SR P N ok Poi (fun σ x y => AdR N σ x.1 y.1 ∧ x.2 = y.2) ρ (behindNumber a) (behindNumber a') := by
 unfold behindNumber
 refine (sr_numberAt h.1).bind fun σ x y hσ e => ?_
 rcases e with ⟨rfl, rfl⟩ | ⟨u, u', l, rfl, rfl, hu⟩
 ·exact .pure ⟨h.mono hσ, rfl⟩
 ·exact .pure ⟨hu, rfl⟩
theorem sr_noView {a a' : Addr} (h : AdR N ρ a a') : SR P N ok Poi (fun _ _ _ => True) ρ (noView a) (noView a') := by
 unfold noView
 refine (sr_viewAt h.1).bind fun σ x y hσ e => ?_
 obtain ⟨rfl, rfl⟩ := e
 exact .pure trivial
theorem here_underlying (N : Cfg) (P : Program) (t : TypeId) : (N.here P).underlying t = P.underlying t := rfl
theorem here_cellsOf (N : Cfg) (P : Program) (t : TypeId) : (N.here P).cellsOf t = P.cellsOf t := rfl
theorem here_bytesOf (N : Cfg) (P : Program) (t : TypeId) : (N.here P).bytesOf t = P.bytesOf t := rfl
theorem here_depth (N : Cfg) (P : Program) : (N.here P).depth = P.depth := rfl
theorem here_byteOfCell (N : Cfg) (P : Program) : ∀ (d : Nat) (t : TypeId) (off : Nat), byteOfCell (N.here P) d t off = byteOfCell P d t off
 | 0, _, _ => rfl
 | d + 1, t, off => by
  unfold byteOfCell
  simp only [here_underlying, here_cellsOf, here_bytesOf, here_byteOfCell N P d]
  rfl
theorem sr_byteOf {a a' : Addr} (h : AdR N ρ a a') : SR P N ok Poi RE ρ (byteOf a) (byteOf a') := by
 unfold byteOf
 rw [h.2.2.1, h.2.1]
 cases hs : a.spot with
 | some s => exact .pure rfl
 | none =>
  dsimp only
  refine .program ?_
  refine (sr_noView h).bind fun σ _ _ hσ _ => ?_
  refine (sr_shape ((h.mono hσ).1)).bind fun τ x y hτ e => ?_
  subst e
  simp only [here_cellsOf, here_bytesOf, here_depth, here_byteOfCell]
  split
  ·split
   ·exact .pure rfl
   ·split
    ·exact .pure rfl
    ·exact sr_stuck _ _
  ·exact sr_stuck _ _
theorem sr_partAt {a a' : Addr} (h : AdR N ρ a a') (c b : Nat) : SR P N ok Poi (fun σ x y => AdR N σ x y) ρ (partAt a c b) (partAt a' c b) := by
 unfold partAt
 refine (sr_byteOf h).bind fun σ x y hσ e => ?_
 subst e
 have h' := h.mono hσ
 have p : AdR N σ { block := a.block, off := a.off + c } { block := a'.block, off := a'.off + c } := ⟨h'.1, by simp [h'.2.1], rfl, h'.2.2.2⟩
 refine (sr_byteOf p).bind fun τ u v hτ e => ?_
 subst e
 refine .pure ?_
 split
 ·exact p.mono hτ
 ·exact ⟨(p.mono hτ).1, p.2.1, rfl, p.2.2.2⟩
theorem sr_fieldPlace {a a' : Addr} (h : AdR N ρ a a') (f : Field) : SR P N ok Poi (fun σ x y => AdR N σ x y) ρ (fieldPlace a f) (fieldPlace a' f) := by
 unfold fieldPlace
 refine (sr_sizeOf f.type).bind fun σ x y hσ e => ?_
 subst e
 split
 ·exact sr_partAt (h.mono hσ) _ _
 ·exact .pure ((h.mono hσ).add _)
theorem sr_fieldAt (s : TypeId) {v v' : Value} (h : VR N ρ v v') (f : Nat) : SR P N ok Poi (RV N) ρ (Instr.fieldAt s v f) (Instr.fieldAt s v' f) := by
 unfold Instr.fieldAt
 refine (sr_underlying s).bind fun σ d d' hσ e => ?_
 obtain ⟨rfl, _⟩ := e
 split
 ·split
  ·refine (sr_sureAddr (h.mono hσ)).bind fun τ a a' hτ ha => ?_
   refine (sr_fieldPlace ha _).bind fun υ b b' hυ hb => ?_
   exact .pure hb.ptr
  ·exact sr_stuck _ _
 ·exact sr_stuck _ _
theorem sr_extract {v v' : Value} (h : VR N ρ v v') (i : Nat) : SR P N ok Poi (RV N) ρ (Instr.extract v i) (Instr.extract v' i) := by
 cases h with
 | @tuple xs xs' sx hx =>
  unfold Instr.extract
  cases e : xs[i]? with
  | none =>
   simp only [e]
   exact sr_stuck _ _
  | some x =>
   obtain ⟨y, h1, h2⟩ := AR.getSome ⟨sx, hx⟩ e
   simp only [e, h1]
   exact .pure h2
 | _ => exact .halt trivial
theorem sr_field (t : TypeId) {v v' : Value} (h : VR N ρ v v') (f : Nat) : SR P N ok Poi (RV N) ρ (Instr.field t v f) (Instr.field t v' f) := by
 unfold Instr.field
 refine (sr_underlying t).bind fun σ d d' hσ e => ?_
 obtain ⟨rfl, _⟩ := e
 split
 ·split
  ·refine (sr_asAgg (h.mono hσ)).bind fun τ a a' hτ ha => ?_
   exact sr_part _ ha _
  ·exact sr_stuck _ _
 ·exact sr_stuck _ _
def tailI (t : TypeId) (k : IntKind) (n : Int) (x : Option Addr × Nat × TypeId) : Sem Value := do
 let d ← underlying t
 match x.1 with
 | some a =>
  if 0 ≤ n ∧ n < x.2.1 then (do pure (.pointer (some (a.add (n.toNat * (← sizeOf x.2.2))))))
  else if (decide (x.2.1 ≤ 1) && (match d with | .array .. => true | _ => false)) = true then unsupported (.noEntry "op/indexAddr.an index out of range at an array of length 0 or 1 (ledger 616)")
  else boundsPanic k n x.2.1 .index
 | none => boundsPanic k n 0 .index
theorem sr_tailI (t : TypeId) (k : IntKind) (n : Int) (x y : Option Addr × Nat × TypeId) (h2 : x.2 = y.2) (h1 : (x.1 = none ∧ y.1 = none) ∨ ∃ a b, x.1 = some a ∧ y.1 = some b ∧ AdR N ρ a b) : SR P N ok Poi (RV N) ρ (tailI t k n x) (tailI t k n y) := by
 unfold tailI
 refine (sr_underlying t).bind fun σ d d' hσ e => ?_
 obtain ⟨rfl, _⟩ := e
 rw [← h2]
 rcases h1 with ⟨e1, e2⟩ | ⟨a, b, e1, e2, hab⟩ <;> rw [e1, e2]
 ·exact sr_boundsPanic _ _ _ _ _
 ·dsimp only
  split
  ·refine (sr_sizeOf _).bind fun υ s s' hυ e => ?_
   subst e
   exact .pure (((hab.mono (hσ.trans hυ)).add _).ptr)
  ·repeat' split
   all_goals first | exact SR.halt trivial | exact sr_boundsPanic _ _ _ _ _
theorem sr_indexAt (t : TypeId) {v v' i i' : Value} (h : VR N ρ v v') (hi : VR N ρ i i') : SR P N ok Poi (RV N) ρ (Instr.indexAt t v i) (Instr.indexAt t v' i') := by
 unfold Instr.indexAt
 refine (sr_asIntOf hi).bind fun σ ki ki' hσ e => ?_
 subst e
 obtain ⟨k, n⟩ := ki
 dsimp only
 refine (sr_underlying t).bind fun τ d d' hτ e => ?_
 obtain ⟨rfl, _⟩ := e
 cases d with
 | array len elem =>
  dsimp only
  refine (sr_sureAddr (h.mono (hσ.trans hτ))).bind fun υ a a' _ ha => ?_
  exact sr_tailI t k n (some a, len, elem) (some a', len, elem) rfl (.inr ⟨_, _, rfl, rfl, ha⟩)
 | slice elem =>
  cases h.mono (hσ.trans hτ) with
  | nilSlice l c => exact sr_tailI t k n (none, l, elem) (none, l, elem) rfl (.inl ⟨rfl, rfl⟩)
  | @slice a b x g l c => exact sr_tailI t k n (some a, l, elem) (some ⟨b, a.off, a.spot⟩, l, elem) rfl (.inr ⟨_, _, rfl, rfl, x, rfl, rfl, g⟩)
  | _ => exact sr_stuck _ _
 | _ => exact sr_stuck _ _
theorem sr_index (t : TypeId) {v v' i i' : Value} (h : VR N ρ v v') (hi : VR N ρ i i') : SR P N ok Poi (RV N) ρ (Instr.index t v i) (Instr.index t v' i') := by
 unfold Instr.index
 refine (sr_asIntOf hi).bind fun σ ki ki' hσ e => ?_
 subst e
 obtain ⟨k, n⟩ := ki
 dsimp only
 refine (sr_underlying t).bind fun τ d d' hτ e => ?_
 obtain ⟨rfl, _⟩ := e
 cases d with
 | array len elem =>
  cases h.mono (hσ.trans hτ) with
  | agg sx hx =>
   dsimp only
   split
   ·refine (sr_sizeOf elem).bind fun υ s s' hυ e => ?_
    subst e
    exact sr_part elem (AR.mono ⟨sx, hx⟩ fun _ _ x => x.mono hυ) _
   ·exact sr_boundsPanic _ _ _ _ _
  | _ => exact sr_stuck _ _
 | string =>
  cases h.mono (hσ.trans hτ) with
  | string s =>
   dsimp only
   split
   ·exact .pure (.int _ _)
   ·exact sr_boundsPanic _ _ _ _ _
  | _ => exact sr_stuck _ _
 | _ => exact sr_stuck _ _
theorem sr_unary (op : UnOp) {v v' : Value} (h : VR N ρ v v') : SR P N ok Poi (RV N) ρ (Op.unary op v) (Op.unary op v') := by
 unfold Op.unary
 cases h with
 | int k n => cases op <;> first | exact .pure (.int _ _) | exact sr_stuck _ _
 | bool b => cases op <;> first | exact .pure (.bool _) | exact sr_stuck _ _
 | ptr => cases op <;> first | exact .halt trivial | exact sr_stuck _ _
 | _ => cases op <;> exact sr_stuck _ _
def intType (P : Program) (t : TypeId) : Bool := match P.underlying t with | some (.int _) => true | _ => false
theorem sr_convertInt {s d : TypeId} (hs : intType P s = true) (hd : intType P d = true) {v v' : Value} (h : VR N ρ v v') : SR P N ok Poi (RV N) ρ (convert s d v) (convert s d v') := by
 unfold convert
 unfold intType at hs hd
 refine (sr_underlying s).bind fun σ x x' hσ e => ?_
 obtain ⟨rfl, e1⟩ := e
 refine (sr_underlying d).bind fun τ y y' hτ e => ?_
 obtain ⟨rfl, e2⟩ := e
 rw [e1] at hs
 rw [e2] at hd
 cases x <;> first | (simp at hs; done) | skip
 cases y <;> first | (simp at hd; done) | skip
 cases h.mono (hσ.trans hτ) <;> first | exact .pure (.int _ _) | exact SR.halt trivial
theorem sr_makeInterface (t : TypeId) (ht : N.T t) {v v' : Value} (h : VR N ρ v v') : SR P N ok Poi (RV N) ρ (Instr.makeInterface t v) (Instr.makeInterface t v') := by
 unfold Instr.makeInterface
 refine (sr_underlying t).bind fun σ x x' hσ e => ?_
 obtain ⟨rfl, _⟩ := e
 cases x <;> first | exact .pure (.iface ht (h.mono hσ)) | exact sr_stuck _ _
theorem sr_makeFunc {f : FuncId} (hf : N.N f) {xs xs' ys ys' : Array Value} (hx : AR (VR N ρ) xs xs') (hy : AR (VR N ρ) ys ys') : SR P N ok Poi (RV N) ρ (Instr.makeFunc (.func f) xs ys) (Instr.makeFunc (.func f) xs' ys') :=
 .pure (.func hf hx.1 hx.2 hy.1 hy.2)
end
end Go.Proofs.Ytjgleaakgbnjgaa.Par
end

section
namespace Go.Proofs.Ytjgleaakgbnjgaa.Par
open Go
section
variable {P : Program} {N : Cfg} {ok : Code → Prop} {Poi : Nat → Prop} {ρ : Emb}
def simpleEq (P : Program) (t : TypeId) : Bool :=
 match P.underlying t with
 | some .bool | some .string => true
 | some (.int _) => match P.info? t with | some { desc := .named "sync.copyChecker" _, .. } => false | _ => true
 | _ => false
theorem sr_typeInfoL {α β : Type} {A : Emb → α → β → Prop} (t : TypeId) {f : TypeInfo → Sem α} {t' : Sem β} (h : ∀ i, P.info? t = some i → SR P N ok Poi A ρ (f i) t') : SR P N ok Poi A ρ (typeInfo t >>= f) t' := by
 unfold typeInfo
 refine .progL ?_
 show SR _ _ _ _ A ρ ((match P.info? t with | some i => pure i | none => stuck "no such type") >>= f) t'
 cases hi : P.info? t with
 | none => exact .halt trivial
 | some i => exact h i hi
theorem sr_underlyingL {α β : Type} {A : Emb → α → β → Prop} (t : TypeId) {f : TypeDesc → Sem α} {t' : Sem β} (h : ∀ d, P.underlying t = some d → SR P N ok Poi A ρ (f d) t') : SR P N ok Poi A ρ (underlying t >>= f) t' := by
 unfold underlying
 refine .progL ?_
 show SR P N ok Poi A ρ ((match P.underlying t with | some i => pure i | none => stuck "no such type") >>= f) t'
 cases hi : P.underlying t with
 | none => exact .halt trivial
 | some i => exact h i hi
theorem sr_equal_dead {α β : Type} {A : Emb → α → β → Prop} {t : TypeId} (ht : simpleEq P t = true) {v u : Value} (hd : v = .tuple #[] ∨ u = .tuple #[]) {f : Bool → Sem α} (t' : Sem β) : SR P N ok Poi A ρ (Op.equal t v u >>= f) t' := by
 unfold Op.equal
 obtain ⟨d, hd2⟩ : ∃ d, Op.maxDepth = d + 1 := ⟨9999, rfl⟩
 rw [hd2]
 unfold Op.equalIn
 rw [bind_assoc]
 refine sr_underlyingL t fun x e1 => ?_
 unfold simpleEq at ht
 rw [e1] at ht
 cases x <;> first | (simp at ht; done) | skip
 all_goals
  rcases hd with rfl | rfl
  ·first | exact .halt trivial | (cases u <;> exact .halt trivial)
  ·cases v <;> first | exact .halt trivial | (rename_i p; cases p <;> exact .halt trivial)
theorem sr_equal {t : TypeId} (ht : simpleEq P t = true) (hG : N.G = P.globals.size) {v v' u u' : Value} (h : VR N ρ v v') (h' : VR N ρ u u') : SR P N ok Poi RE ρ (Op.equal t v u) (Op.equal t v' u') := by
 unfold Op.equal
 obtain ⟨d, hd⟩ : ∃ d, Op.maxDepth = d + 1 := ⟨9999, rfl⟩
 rw [hd]
 unfold Op.equalIn
 refine (sr_underlying t).bind fun σ x x' hσ e => ?_
 obtain ⟨rfl, e1⟩ := e
 unfold simpleEq at ht
 rw [e1] at ht
 replace h := h.mono hσ
 replace h' := h'.mono hσ
 cases x with
 | bool =>
  cases h <;> first | exact sr_stuck _ _ | (cases h' <;> first | exact sr_stuck _ _ | exact .pure rfl)
 | string =>
  cases h <;> first | exact sr_stuck _ _ | (cases h' <;> first | exact sr_stuck _ _ | exact .pure rfl)
 | int k =>
  cases h with
  | int k n =>
   cases h' with
   | int k' m =>
    dsimp only
    split
    ·exact .pure rfl
    ·exact sr_stuck _ _
   | ptr x g =>
    by_cases z : n = 0
    ·subst z
     exact .pure rfl
    ·split <;> first | exact .pure rfl | exact .halt trivial | (rename_i a; simp_all; done) | (simp_all; done)
   | nilPtr => split <;> first | exact .halt trivial | (simp_all; done)
   | _ => exact sr_stuck _ _
  | @ptr a b x g =>
   cases h' with
   | int k' m =>
    by_cases z : m = 0
    ·subst z
     exact .pure rfl
    ·split <;> first | exact .pure rfl | exact .halt trivial | (rename_i a; simp_all; done) | (simp_all; done)
   | @ptr c d' x' g' =>
    dsimp only
    refine (sr_behind (show AdR N σ a ⟨b, a.off, a.spot⟩ from ⟨x, rfl, rfl, g⟩)).bind fun τ p p' hτ hp => ?_
    refine (sr_behind (show AdR N τ c ⟨d', c.off, c.spot⟩ from ⟨hτ _ _ x', rfl, rfl, g'⟩)).bind fun υ q q' hυ hq => ?_
    refine .progL ?_
    have c : (p.1.block == q.1.block && decide (p.1.block < P.globals.size)) = false := by
     have := hp.1.2.2.2
     rw [decide_eq_false (by omega), Bool.and_false]
    show SR _ _ _ _ _ _ (if (p.1.block == q.1.block && decide (p.1.block < P.globals.size)) = true then _ else _) _
    rw [c, if_neg (by simp)]
    refine sr_typeInfoL t fun i hi => ?_
    rw [hi] at ht
    obtain ⟨desc, str, size, bytes, hpt, al, fa, zero, cmp, methods⟩ := i
    dsimp only
    split
    ·simp at ht
    ·exact .halt trivial
   | nilPtr => exact .halt trivial
   | _ => exact .halt trivial
  | nilPtr =>
   cases h' <;> exact .halt trivial
  | _ =>
   cases h' <;> first | exact sr_stuck _ _ | exact SR.halt trivial
 | _ => simp at ht
end
end Go.Proofs.Ytjgleaakgbnjgaa.Par
end

section
namespace Go.Proofs.Ytjgleaakgbnjgaa.Par
open Go
section
variable {P : Program} {N : Cfg} {ok : Code → Prop} {Poi : Nat → Prop} {ρ : Emb}
theorem sr_program {α β : Type} {A : Emb → α → β → Prop} {f : Program → Sem α} {f' : Program → Sem β} (h : SR P N ok Poi A ρ (f P) (f' (N.here P))) : SR P N ok Poi A ρ (program >>= f) (program >>= f') := .program h
theorem here_eqGuardType (N : Cfg) (P : Program) : ∀ (d : Nat) (t : TypeId), (N.here P).eqGuardType d t = P.eqGuardType d t
  | 0, _ => rfl
  | d + 1, t => by
    unfold Program.eqGuardType
    simp only [here_underlying, here_eqGuardType N P d]
theorem sr_guardIn {t : TypeId} (ht : simpleEq P t = true) (v v' u u' : Value) : SR P N ok Poi (fun _ a b => a = false ∧ b = false) ρ (Op.eqGuardIn Op.maxDepth t v u) (Op.eqGuardIn Op.maxDepth t v' u') := by
  obtain ⟨d, hd⟩ : ∃ d, Op.maxDepth = d + 1 := ⟨9999, rfl⟩
  rw [hd]
  unfold Op.eqGuardIn
  refine (sr_underlying t).bind fun σ x x' hσ e => ?_
  obtain ⟨rfl, e1⟩ := e
  unfold simpleEq at ht
  rw [e1] at ht
  cases x <;> first | exact .pure ⟨rfl, rfl⟩ | (simp at ht; done)
theorem sr_eqGuard {op : BinOp} {t : TypeId} (ht : (op = .eql ∨ op = .neq) → simpleEq P t = true) (x y : Operand) {v v' u u' : Value} (h : VR N ρ v v') (h' : VR N ρ u u') (hd : v ≠ .tuple #[] ∧ u ≠ .tuple #[]) : SR P N ok Poi (fun _ _ _ => True) ρ (eqGuard op t x y v u) (eqGuard op t x y v' u') := by
  unfold eqGuard
  by_cases ho : op = .eql ∨ op = .neq
  · have hs := ht ho
    have agg : ∀ a b a' b' : Value, SR P N ok Poi (fun _ _ _ => True) ρ (do
        if !(← program).eqGuardType (← program).depth t then return
        if ← Op.eqGuardIn Op.maxDepth t a b then unsupported (.noEntry "binop/eql: two nil values of an interface type with methods, in a part of a struct or an array")) (do
        if !(← program).eqGuardType (← program).depth t then return
        if ← Op.eqGuardIn Op.maxDepth t a' b' then unsupported (.noEntry "binop/eql: two nil values of an interface type with methods, in a part of a struct or an array")) := by
      intro a b a' b'
      refine sr_program (sr_program ?_)
      simp only [here_eqGuardType, here_depth]
      split
      · exact .pure trivial
      · refine (sr_guardIn hs a a' b b').bind fun σ p q _ hpq => ?_
        obtain ⟨rfl, rfl⟩ := hpq
        exact .pure trivial
    have nil : ∀ a b a' b' : Value, SR P N ok Poi (fun _ _ _ => True) ρ (do
        if (x matches .const _) || (y matches .const _) then return
        if ← Op.eqGuardIn Op.maxDepth t a b then unsupported (.noEntry "binop/eql: two nil values of an interface type with methods, neither of them the literal nil")) (do
        if (x matches .const _) || (y matches .const _) then return
        if ← Op.eqGuardIn Op.maxDepth t a' b' then unsupported (.noEntry "binop/eql: two nil values of an interface type with methods, neither of them the literal nil")) := by
      intro a b a' b'
      repeat' split
      all_goals first
        | exact .pure trivial
        | (refine (sr_guardIn hs a a' b b').bind fun σ p q _ hpq => ?_
           obtain ⟨rfl, rfl⟩ := hpq
           exact .pure trivial)
    rcases ho with rfl | rfl <;> (change SR _ _ _ _ _ ρ (if (!true) = true then _ else _) (if (!true) = true then _ else _); rw [if_neg (show ¬((!true) = true) by decide), if_neg (show ¬((!true) = true) by decide)])
    all_goals
      cases h with
      | dead => exact absurd rfl hd.1
      | agg => cases h' <;> first | exact agg _ _ _ _ | exact .pure trivial | exact absurd rfl hd.2
      | nilIface => cases h' <;> first | exact nil _ _ _ _ | exact .pure trivial | exact absurd rfl hd.2
      | _ => cases h' <;> first | exact .pure trivial | exact absurd rfl hd.2
  · cases op <;> first | exact absurd (Or.inl rfl) ho | exact absurd (Or.inr rfl) ho | exact .pure trivial
end
end Go.Proofs.Ytjgleaakgbnjgaa.Par
end

section
namespace Go.Proofs.Ytjgleaakgbnjgaa.Par
open Go
section
theorem here_cellOfByte (N : Cfg) (P : Program) : ∀ (d : Nat) (t : TypeId) (b : Nat), cellOfByte (N.here P) d t b = cellOfByte P d t b
 | 0, _, _ => rfl
 | d + 1, t, b => by
  unfold cellOfByte
  simp only [here_underlying, here_cellsOf, here_bytesOf, here_cellOfByte N P d]
  rfl
theorem here_cellAtBytes (N : Cfg) (P : Program) (e : TypeId) (x y : Nat) (n : Int) : cellAtBytes (N.here P) (N.here P).depth e (x / (N.here P).cellsOf e) y n = cellAtBytes P P.depth e (x / P.cellsOf e) y n := by
 unfold cellAtBytes
 simp only [here_cellsOf, here_bytesOf, here_depth, here_byteOfCell, here_cellOfByte]
 rfl
variable {P : Program} {N : Cfg} {ok : Code → Prop} {Poi : Nat → Prop} {ρ : Emb}
theorem sr_intArith (op : BinOp) (k : IntKind) (x y : Int) : SR P N ok Poi (RV N) ρ (Op.intArith op k x y) (Op.intArith op k x y) := by
 unfold Op.intArith
 cases op <;> first | exact .pure (.int _ _) | exact sr_stuck _ _
theorem sr_intDiv (op : BinOp) (k : IntKind) (x y : Int) : SR P N ok Poi (RV N) ρ (Op.intDiv op k x y) (Op.intDiv op k x y) := by
 unfold Op.intDiv
 split
 ·exact sr_runtimePanic _ _
 ·cases op <;> first | exact .pure (.int _ _) | exact sr_stuck _ _
theorem sr_intBits (op : BinOp) (k : IntKind) (x y : Int) : SR P N ok Poi (RV N) ρ (Op.intBits op k x y) (Op.intBits op k x y) := by
 unfold Op.intBits
 cases op <;> first | exact .pure (.int _ _) | exact sr_stuck _ _
theorem sr_intCmp (op : BinOp) (x y : Int) : SR P N ok Poi (RV N) ρ (Op.intCmp op x y) (Op.intCmp op x y) := by
 unfold Op.intCmp
 cases op <;> first | exact .pure (.bool _) | exact sr_stuck _ _
theorem sr_shift (op : BinOp) (k : IntKind) (x : Int) (yk : IntKind) (y : Int) : SR P N ok Poi (RV N) ρ (Op.shift op k x yk y) (Op.shift op k x yk y) := by
 unfold Op.shift
 split
 ·exact sr_runtimePanic _ _
 ·cases op <;> first | exact .pure (.int _ _) | exact sr_stuck _ _
theorem sr_stringOp (op : BinOp) (x y : ByteArray) : SR P N ok Poi (RV N) ρ (Op.stringOp op x y) (Op.stringOp op x y) := by
 unfold Op.stringOp
 cases op with
 | add =>
  dsimp only
  split
  ·exact .halt trivial
  ·exact .pure (.string _)
 | _ => first | exact .pure (.bool _) | exact sr_stuck _ _
theorem sr_unsafeAddS {a t b s} {v v' u u' : Value} (h : VR N ρ v v') (h' : VR N ρ u u') : SR P N ok Poi (fun σ r q => VR N σ r q ∧ r ≠ .tuple #[]) ρ (Builtin.unsafeAdd_ a t #[v, u]) (Builtin.unsafeAdd_ b s #[v', u']) := by
 unfold Builtin.unsafeAdd_
 cases h with
 | nilPtr =>
  dsimp only
  refine (sr_asInt h').bind fun σ n n' hσ e => ?_
  subst e
  split
  ·exact .halt trivial
  ·split
   ·exact .halt trivial
   ·exact .halt trivial
 | @ptr a b x g =>
  dsimp only
  refine (sr_asInt h').bind fun σ n n' hσ e => ?_
  subst e
  have hx : AdR N σ a ⟨b, a.off, a.spot⟩ := ⟨hσ _ _ x, rfl, rfl, g⟩
  split
  ·refine (sr_viewAt hx.1).bind fun τ p q hτ e => ?_
   obtain ⟨rfl, rfl⟩ := e
   exact .pure ⟨(hx.mono hτ).ptr, fun h => by cases h⟩
  ·split
   ·exact .halt trivial
   ·refine (sr_shape hx.1).bind fun τ p q hτ e => ?_
    subst e
    split
    ·rename_i e cells
     refine sr_program ?_
     dsimp only
     rw [here_cellAtBytes]
     cases hc : cellAtBytes P P.depth e (cells / P.cellsOf e) a.off n with
     | none => exact .halt trivial
     | some o => exact .pure ⟨VR.ptr (hx.mono hτ).1 g, fun h => by cases h⟩
    ·exact .halt trivial
 | _ => exact sr_stuck _ _
theorem sr_unsafeAdd {a t b s} {v v' u u' : Value} (h : VR N ρ v v') (h' : VR N ρ u u') : SR P N ok Poi (RV N) ρ (Builtin.unsafeAdd_ a t #[v, u]) (Builtin.unsafeAdd_ b s #[v', u']) := (sr_unsafeAddS h h').mono fun _ _ _ x => x.1
theorem sr_movedNumber (t : TypeId) {v v' u u' : Value} (h : VR N ρ v v') (h' : VR N ρ u u') : SR P N ok Poi (RV N) ρ (movedNumber t v u) (movedNumber t v' u') := by
 unfold movedNumber
 refine (sr_underlying t).bind fun σ d d' hσ e => ?_
 obtain ⟨rfl, _⟩ := e
 replace h := h.mono hσ
 replace h' := h'.mono hσ
 have rest : ∀ {x x' : Value}, VR N σ x x' → SR P N ok Poi (RV N) σ (do
   let .pointer (some n) := x | Builtin.unsafeAdd_ #[] t #[x, u]
   let (a, lost) ← behindNumber n
   match ← Builtin.unsafeAdd_ #[] t #[.pointer (some a), u] with
   | .pointer (some b) => asNumber b lost
   | v => pure v) (do
   let .pointer (some n) := x' | Builtin.unsafeAdd_ #[] t #[x', u']
   let (a, lost) ← behindNumber n
   match ← Builtin.unsafeAdd_ #[] t #[.pointer (some a), u'] with
   | .pointer (some b) => asNumber b lost
   | v => pure v) := by
  intro x x' hx
  cases hx with
  | @ptr a b y g =>
   refine (sr_behind (show AdR N σ a ⟨b, a.off, a.spot⟩ from ⟨y, rfl, rfl, g⟩)).bind fun τ p q hτ e => ?_
   obtain ⟨p1, p2⟩ := p
   obtain ⟨q1, q2⟩ := q
   obtain ⟨e, rfl⟩ := e
   dsimp only at e ⊢
   refine (sr_unsafeAddS e.ptr (h'.mono hτ)).bind fun υ r s hυ hrs => ?_
   obtain ⟨hrs, hnt⟩ := hrs
   cases hrs with
   | dead => exact absurd rfl hnt
   | @ptr a b y g =>
    show SR _ _ _ _ _ _ (asNumber a p2) (asNumber ⟨b, a.off, a.spot⟩ p2)
    unfold asNumber
    refine SR.bind (A := fun σ n r => σ n = some r ∧ N.G ≤ n) (.new (.number y g p2) fun n r hn hg => .pure ⟨Emb.add_new _ _ _, hg⟩) fun σ n r hσ hn => ?_
    exact .pure (AdR.ptr ⟨hn.1, rfl, rfl, hn.2⟩)
   | nilPtr => exact .pure .nilPtr
   | bool b => exact .pure (.bool b)
   | int k n => exact .pure (.int k n)
   | string s => exact .pure (.string s)
   | nilSlice n c => exact .pure (.nilSlice n c)
   | slice h g n c => exact .pure (.slice h g n c)
   | nilMap => exact .pure .nilMap
   | nilChan => exact .pure .nilChan
   | func h sx hx sy hy => exact .pure (.func h sx hx sy hy)
   | yield h => exact .pure (.yield h)
   | nilFunc => exact .pure .nilFunc
   | iface ht h => exact .pure (.iface ht h)
   | nilIface => exact .pure .nilIface
   | agg sx hx => exact .pure (.agg sx hx)
   | tuple sx hx => exact .pure (.tuple sx hx)
   | meth n xs ys => exact .pure (.meth n xs ys)
  | nilPtr => exact sr_unsafeAdd .nilPtr h'
  | bool b => exact sr_unsafeAdd (.bool b) h'
  | int k n => exact sr_unsafeAdd (.int k n) h'
  | string s => exact sr_unsafeAdd (.string s) h'
  | nilSlice n c => exact sr_unsafeAdd (.nilSlice n c) h'
  | slice x g n c => exact sr_unsafeAdd (.slice x g n c) h'
  | nilMap => exact sr_unsafeAdd .nilMap h'
  | nilChan => exact sr_unsafeAdd .nilChan h'
  | func x sx hx sy hy => exact sr_unsafeAdd (.func x sx hx sy hy) h'
  | yield x => exact sr_unsafeAdd (.yield x) h'
  | nilFunc => exact sr_unsafeAdd .nilFunc h'
  | iface ht x => exact sr_unsafeAdd (.iface ht x) h'
  | nilIface => exact sr_unsafeAdd .nilIface h'
  | agg sx hx => exact sr_unsafeAdd (.agg sx hx) h'
  | tuple sx hx => exact sr_unsafeAdd (.tuple sx hx) h'
  | meth n xs ys => exact sr_unsafeAdd (.meth n xs ys) h'
  | dead => exact .halt trivial
 cases d <;> first | exact .halt trivial | exact rest h
theorem sr_movedPointer (t : TypeId) {v v' u u' : Value} (h : VR N ρ v v') (h' : VR N ρ u u') : SR P N ok Poi (RV N) ρ (movedPointer t v u) (movedPointer t v' u') := by
 unfold movedPointer
 cases h with
 | @ptr a b x g =>
  dsimp only
  refine (sr_numberAt x).bind fun σ p q hσ e => ?_
  rcases e with ⟨rfl, rfl⟩ | ⟨_, _, _, rfl, rfl, _⟩
  ·exact sr_unsafeAdd (a := #[]) (b := #[]) (t := t) (s := t) ((VR.ptr x g).mono hσ) (h'.mono hσ)
  ·exact .halt trivial
 | bool b => exact sr_unsafeAdd (.bool b) h'
 | int k n => exact sr_unsafeAdd (.int k n) h'
 | string s => exact sr_unsafeAdd (.string s) h'
 | nilPtr => exact sr_unsafeAdd .nilPtr h'
 | nilSlice n c => exact sr_unsafeAdd (.nilSlice n c) h'
 | slice x g n c => exact sr_unsafeAdd (.slice x g n c) h'
 | nilMap => exact sr_unsafeAdd .nilMap h'
 | nilChan => exact sr_unsafeAdd .nilChan h'
 | func x sx hx sy hy => exact sr_unsafeAdd (.func x sx hx sy hy) h'
 | yield x => exact sr_unsafeAdd (.yield x) h'
 | nilFunc => exact sr_unsafeAdd .nilFunc h'
 | iface ht x => exact sr_unsafeAdd (.iface ht x) h'
 | nilIface => exact sr_unsafeAdd .nilIface h'
 | agg sx hx => exact sr_unsafeAdd (.agg sx hx) h'
 | tuple sx hx => exact sr_unsafeAdd (.tuple sx hx) h'
 | meth n xs ys => exact sr_unsafeAdd (.meth n xs ys) h'
 | dead => exact .halt trivial
theorem sr_twoPlaces {α β : Type} {A : Emb → α → β → Prop} (hG : N.G = P.globals.size) {a b : Addr} (ha : N.G ≤ a.block) (f : Nat × Nat → Sem α) (t' : Sem β) : SR P N ok Poi A ρ (Op.twoPlaces a b >>= f) t' := by
 unfold Op.twoPlaces
 have e : ∀ w, ∃ x w', ((do
   if a.block != b.block || a.block ≥ (← program).globals.size then unsupported .addressObserved
   pure (← byteOf a, ← byteOf b) : Sem (Nat × Nat)) >>= f).run P w = .halt x w' ∧ HaltOk x ∧ Grow w w' := by
  intro w
  refine ⟨.unsupported .addressObserved, w, ?_, trivial, Grow.refl _⟩
  unfold program
  simp only [Sem.run_bind, Sem.run, Result.andThen_ok, Sem.run_ite]
  have c : (a.block != b.block || decide (a.block ≥ P.globals.size)) = true := by
   rw [decide_eq_true (by omega), Bool.or_true]
  simp [c, unsupported]
 exact .doom e
theorem sr_addrMod (k : IntKind) {a a' : Addr} (h : AdR N ρ a a') (n : Int) : SR P N ok Poi (RV N) ρ (Op.addrMod k a n) (Op.addrMod k a' n) := by
 unfold Op.addrMod
 refine (sr_shape h.1).bind fun σ x y hσ e => ?_
 subst e
 split
 ·refine (sr_typeInfo _).bind fun τ i j hτ e => ?_
  subst e
  dsimp only
  split
  ·exact .halt trivial
  ·refine (sr_byteOf (h.mono (hσ.trans hτ))).bind fun υ p q _ e => ?_
   subst e
   exact .pure (.int _ _)
 ·exact .halt trivial
theorem sr_binOpPI {op : BinOp} (h1 : op ≠ .eql) (h2 : op ≠ .neq) (t : TypeId) {a a' : Addr} (ha : AdR N ρ a a') (k : IntKind) (n : Int) : SR P N ok Poi (RV N) ρ (binOp op t (.pointer (some a)) (.int k n)) (binOp op t (.pointer (some a')) (.int k n)) := by
 cases op
 case eql => exact absurd rfl h1
 case neq => exact absurd rfl h2
 case add =>
  show SR P N ok Poi (RV N) ρ (do if (← underlying t) matches .unsafePointer then movedPointer t (.pointer (some a)) (.int k n) else movedNumber t (.pointer (some a)) (.int k n)) (do if (← underlying t) matches .unsafePointer then movedPointer t (.pointer (some a')) (.int k n) else movedNumber t (.pointer (some a')) (.int k n))
  refine (sr_underlying t).bind fun σ d d' hσ e => ?_
  obtain ⟨rfl, _⟩ := e
  have hp := (ha.mono hσ).ptr (N := N)
  have key : ∀ b : Bool, SR P N ok Poi (RV N) σ (if b = true then movedPointer t (.pointer (some a)) (.int k n) else movedNumber t (.pointer (some a)) (.int k n)) (if b = true then movedPointer t (.pointer (some a')) (.int k n) else movedNumber t (.pointer (some a')) (.int k n)) := fun b => by
   cases b
   ·exact sr_movedNumber t hp (.int _ _)
   ·exact sr_movedPointer t hp (.int _ _)
  exact key _
 case sub => exact sr_movedNumber t ha.ptr (.int k (-n))
 case rem =>
  show SR P N ok Poi (RV N) ρ (do Op.addrMod k (← behindNumber a).1 n) (do Op.addrMod k (← behindNumber a').1 n)
  exact (sr_behind ha).bind fun σ p q hσ e => sr_addrMod _ e.1 _
 case and =>
  show SR P N ok Poi (RV N) ρ (do Op.addrMod k (← behindNumber a).1 (n + 1)) (do Op.addrMod k (← behindNumber a').1 (n + 1))
  exact (sr_behind ha).bind fun σ p q hσ e => sr_addrMod _ e.1 _
 all_goals exact SR.halt trivial
theorem sr_binOpPP {op : BinOp} (h1 : op ≠ .eql) (h2 : op ≠ .neq) (hG : N.G = P.globals.size) (t : TypeId) {a a' b b' : Addr} (ha : AdR N ρ a a') (hb : AdR N ρ b b') : SR P N ok Poi (RV N) ρ (binOp op t (.pointer (some a)) (.pointer (some b))) (binOp op t (.pointer (some a')) (.pointer (some b'))) := by
 have cmp : ∀ (o : BinOp), SR P N ok Poi (RV N) ρ (do Op.addrCmp o (← behindNumber a).1 (← behindNumber b).1) (do Op.addrCmp o (← behindNumber a').1 (← behindNumber b').1) := fun o => by
  refine (sr_behind ha).bind fun σ p q hσ e => ?_
  refine (sr_behind (hb.mono hσ)).bind fun τ p' q' hτ e' => ?_
  unfold Op.addrCmp
  exact sr_twoPlaces hG e.1.2.2.2 _ _
 cases op
 case eql => exact absurd rfl h1
 case neq => exact absurd rfl h2
 case sub =>
  show SR P N ok Poi (RV N) ρ (do Op.addrSub .u64 (← behindNumber a).1 (← behindNumber b).1) (do Op.addrSub .u64 (← behindNumber a').1 (← behindNumber b').1)
  refine (sr_behind ha).bind fun σ p q hσ e => ?_
  refine (sr_behind (hb.mono hσ)).bind fun τ p' q' hτ e' => ?_
  unfold Op.addrSub
  exact sr_twoPlaces hG e.1.2.2.2 _ _
 case lss => exact cmp .lss
 case leq => exact cmp .leq
 case gtr => exact cmp .gtr
 case geq => exact cmp .geq
 all_goals exact SR.halt trivial
theorem sr_binOpIP {op : BinOp} (h1 : op ≠ .eql) (h2 : op ≠ .neq) (t : TypeId) {a a' : Addr} (ha : AdR N ρ a a') (k : IntKind) (n : Int) : SR P N ok Poi (RV N) ρ (binOp op t (.int k n) (.pointer (some a))) (binOp op t (.int k n) (.pointer (some a'))) := by
 cases op
 case eql => exact absurd rfl h1
 case neq => exact absurd rfl h2
 case add => exact sr_movedNumber t ha.ptr (.int k n)
 case and =>
  show SR P N ok Poi (RV N) ρ (do Op.addrMod k (← behindNumber a).1 (n + 1)) (do Op.addrMod k (← behindNumber a').1 (n + 1))
  exact (sr_behind ha).bind fun σ p q hσ e => sr_addrMod _ e.1 _
 all_goals exact SR.halt trivial
theorem sr_binOpNI {op : BinOp} (h1 : op ≠ .eql) (h2 : op ≠ .neq) (t : TypeId) (k : IntKind) (n : Int) : SR P N ok Poi (RV N) ρ (binOp op t (.pointer none) (.int k n)) (binOp op t (.pointer none) (.int k n)) := by
 cases op
 case eql => exact absurd rfl h1
 case neq => exact absurd rfl h2
 case add =>
  show SR P N ok Poi (RV N) ρ (do if (← underlying t) matches .unsafePointer then movedPointer t (.pointer none) (.int k n) else movedNumber t (.pointer none) (.int k n)) (do if (← underlying t) matches .unsafePointer then movedPointer t (.pointer none) (.int k n) else movedNumber t (.pointer none) (.int k n))
  refine (sr_underlying t).bind fun σ d d' hσ e => ?_
  obtain ⟨rfl, _⟩ := e
  have key : ∀ b : Bool, SR P N ok Poi (RV N) σ (if b = true then movedPointer t (.pointer none) (.int k n) else movedNumber t (.pointer none) (.int k n)) (if b = true then movedPointer t (.pointer none) (.int k n) else movedNumber t (.pointer none) (.int k n)) := fun b => by
   cases b
   ·exact sr_movedNumber t .nilPtr (.int k n)
   ·rw [if_pos rfl]
    exact sr_movedPointer t .nilPtr (.int k n)
  exact key _
 case sub => exact sr_movedNumber t .nilPtr (.int k (-n))
 all_goals exact SR.halt trivial
theorem sr_binOpIN {op : BinOp} (h1 : op ≠ .eql) (h2 : op ≠ .neq) (t : TypeId) (k : IntKind) (n : Int) : SR P N ok Poi (RV N) ρ (binOp op t (.int k n) (.pointer none)) (binOp op t (.int k n) (.pointer none)) := by
 cases op
 case eql => exact absurd rfl h1
 case neq => exact absurd rfl h2
 case add => exact sr_movedNumber t .nilPtr (.int k n)
 all_goals exact SR.halt trivial
theorem sr_binOpII {op : BinOp} (h1 : op ≠ .eql) (h2 : op ≠ .neq) (t : TypeId) (k k' : IntKind) (n m : Int) : SR P N ok Poi (RV N) ρ (binOp op t (.int k n) (.int k' m)) (binOp op t (.int k n) (.int k' m)) := by
 cases op
 case eql => exact absurd rfl h1
 case neq => exact absurd rfl h2
 case shl => exact (sr_shift .shl k n k' m : SR P N ok Poi (RV N) ρ (Op.shift .shl k n k' m) (Op.shift .shl k n k' m))
 case shr => exact (sr_shift .shr k n k' m : SR P N ok Poi (RV N) ρ (Op.shift .shr k n k' m) (Op.shift .shr k n k' m))
 all_goals
  unfold binOp
  dsimp only
  split
  ·exact sr_stuck _ _
  ·first | exact sr_intArith _ _ _ _ | exact sr_intDiv _ _ _ _ | exact sr_intBits _ _ _ _ | exact sr_intCmp _ _ _
set_option maxHeartbeats 2000000 in
theorem sr_binOp {op : BinOp} {t : TypeId} (ht : (op = .eql ∨ op = .neq) → simpleEq P t = true) (hG : N.G = P.globals.size) {v v' u u' : Value} (h : VR N ρ v v') (h' : VR N ρ u u') (hd : v ≠ .tuple #[] ∧ u ≠ .tuple #[]) : SR P N ok Poi (RV N) ρ (binOp op t v u) (binOp op t v' u') := by
 by_cases h1 : op = .eql
 ·subst h1
  have e1 : SR P N ok Poi (RV N) ρ (do pure (.bool (← Op.equal t v u))) (do pure (.bool (← Op.equal t v' u'))) := (sr_equal (ht (.inl rfl)) hG h h').bind fun σ x y _ e => by
   subst e
   exact .pure (.bool _)
  cases h <;> first | exact e1 | exact absurd rfl hd.1 | (cases h' <;> first | exact e1 | exact absurd rfl hd.2 | (unfold binOp; dsimp only; first | exact sr_stringOp _ _ _ | (split; exact sr_stuck _ _; exact sr_intCmp _ _ _)))
 ·by_cases h2 : op = .neq
  ·subst h2
   have e2 : SR P N ok Poi (RV N) ρ (do pure (.bool (!(← Op.equal t v u)))) (do pure (.bool (!(← Op.equal t v' u')))) := (sr_equal (ht (.inr rfl)) hG h h').bind fun σ x y _ e => by
    subst e
    exact .pure (.bool _)
   cases h <;> first | exact e2 | exact absurd rfl hd.1 | (cases h' <;> first | exact e2 | exact absurd rfl hd.2 | (unfold binOp; dsimp only; first | exact sr_stringOp _ _ _ | (split; exact sr_stuck _ _; exact sr_intCmp _ _ _)))
  ·clear ht
   cases h with
   | @ptr a b x g =>
    cases h' with
    | @ptr c d x' g' => exact sr_binOpPP h1 h2 hG t (a' := ⟨b, a.off, a.spot⟩) (b' := ⟨d, c.off, c.spot⟩) ⟨x, rfl, rfl, g⟩ ⟨x', rfl, rfl, g'⟩
    | int k n => exact sr_binOpPI h1 h2 t (a' := ⟨b, a.off, a.spot⟩) ⟨x, rfl, rfl, g⟩ k n
    | _ => cases op <;> first | exact absurd rfl h1 | exact absurd rfl h2 | exact SR.halt trivial | exact sr_stuck _ _
   | nilPtr =>
    cases h' with
    | int k n => exact sr_binOpNI h1 h2 t k n
    | _ => cases op <;> first | exact absurd rfl h1 | exact absurd rfl h2 | exact SR.halt trivial | exact sr_stuck _ _
   | int k n =>
    cases h' with
    | int k' m => exact sr_binOpII h1 h2 t k k' n m
    | nilPtr => exact sr_binOpIN h1 h2 t k n
    | @ptr a b x g => exact sr_binOpIP h1 h2 t (a' := ⟨b, a.off, a.spot⟩) ⟨x, rfl, rfl, g⟩ k n
    | _ => cases op <;> first | exact absurd rfl h1 | exact absurd rfl h2 | exact SR.halt trivial | exact sr_stuck _ _
   | string s =>
    cases h' with
    | string s' => cases op <;> first | exact absurd rfl h1 | exact absurd rfl h2 | (unfold binOp; exact sr_stringOp _ _ _)
    | _ => cases op <;> first | exact absurd rfl h1 | exact absurd rfl h2 | exact SR.halt trivial | exact sr_stuck _ _
   | _ => cases h' <;> cases op <;> first | exact absurd rfl h1 | exact absurd rfl h2 | exact SR.halt trivial | exact sr_stuck _ _
theorem sr_bin_dead {α β : Type} {A : Emb → α → β → Prop} {op : BinOp} {t : TypeId} (ht : (op = .eql ∨ op = .neq) → simpleEq P t = true) (x y : Operand) {v u : Value} (hd : v = .tuple #[] ∨ u = .tuple #[]) {f : Value → Sem α} (t' : Sem β) : SR P N ok Poi A ρ ((do eqGuard op t x y v u; binOp op t v u) >>= f) t' := by
 by_cases ho : op = .eql ∨ op = .neq
 ·have hs := ht ho
  rcases ho with rfl | rfl
  ·have key : SR P N ok Poi A ρ ((do pure (.bool (← Op.equal t v u)) : Sem Value) >>= f) t' := by
    rw [bind_assoc]
    exact sr_equal_dead hs hd _
   rcases hd with rfl | rfl
   ·cases u <;> exact key
   ·cases v <;> exact key
  ·have key : SR P N ok Poi A ρ ((do pure (.bool (!(← Op.equal t v u))) : Sem Value) >>= f) t' := by
    rw [bind_assoc]
    exact sr_equal_dead hs hd _
   rcases hd with rfl | rfl
   ·cases u <;> exact key
   ·cases v <;> exact key
 ·rcases hd with rfl | rfl
  ·cases op <;> first | exact absurd (Or.inl rfl) ho | exact absurd (Or.inr rfl) ho | (cases u <;> first | exact .halt trivial | (rename_i p; cases p <;> exact .halt trivial))
  ·cases op <;> first | exact absurd (Or.inl rfl) ho | exact absurd (Or.inr rfl) ho | (cases v <;> first | exact .halt trivial | (rename_i p; cases p <;> exact .halt trivial))
end
end Go.Proofs.Ytjgleaakgbnjgaa.Par
end

section
namespace Go.Proofs.Ytjgleaakgbnjgaa.Par
open Go
inductive NR (P : Program) (N : Cfg) (ok : Code → Prop) (ρ : Emb) : Next → Next → Prop
 | value {v v' : Value} (h : VR N ρ v v') : NR P N ok ρ (.value v) (.value v')
 | skip : NR P N ok ρ .skip .skip
 | enter {f : FuncId} (hf : N.N f) {fn : Func} {c : Code} (h1 : P.funcs[f]? = some fn) (h1' : N.F[f]? = some fn) (h2 : fn.body = some c) (h3 : ok c) {a a' : Array Value} (ha : AR (VR N ρ) a a') : NR P N ok ρ (.enter f a) (.enter f a')
 | spec {f : FuncId} {a a' : Array Value} (hf : N.S f a.size) {fn fn' : Func} {c c' : Code} (h1 : P.funcs[f]? = some fn) (h1' : N.F[f]? = some fn') (h2 : fn.body = some c) (h2' : fn'.body = some c') (ha : AR (VR N ρ) a a') : NR P N ok ρ (.enter f a) (.enter f a')
 | round {l l' : Nat} (h : ρ l = some l') {fn : FuncId} {t t' : Array Value} (ht : AR (VR N ρ) t t') {a b : Code} (ha : ok a) (hb : ok b) : NR P N ok ρ (.round l fn t a b) (.round l' fn t' a b)
def FnOk (P : Program) (N : Cfg) (ok : Code → Prop) (Poi : Nat → Prop) (f : FuncId) : Prop :=
 ∃ fn, P.funcs[f]? = some fn ∧ N.F[f]? = some fn ∧ (fn.name == "runtime.NumGoroutine") = false ∧
  ((∃ c, fn.body = some c ∧ ok c) ∨ (fn.body.isNone = true ∧ Extern.findNext fn = none ∧ ∃ e, Extern.find fn = some e ∧ ∀ (ρ : Emb) (a a' : Array Value), AR (VR N ρ) a a' → SR P N ok Poi (RV N) ρ (e a) (e a')))
def MethOk (P : Program) (N : Cfg) (t : TypeId) : Prop :=
 (∀ i, P.info? t = some i → ∀ m ∈ i.methods, m.path = #[] ∧ ∃ f, m.func = some (f, false) ∧ N.N f) ∧ ∀ e, P.underlying t ≠ some (.pointer e)
section
variable {P : Program} {N : Cfg} {ok : Code → Prop} {Poi : Nat → Prop} {ρ : Emb}
def SpecFn (P : Program) (F : Array Func) (f : FuncId) : Prop := ∃ fn fn' c c', P.funcs[f]? = some fn ∧ F[f]? = some fn' ∧ (fn.name == "runtime.NumGoroutine") = false ∧ (fn'.name == "runtime.NumGoroutine") = false ∧ fn.body = some c ∧ fn'.body = some c'
theorem sr_callSpec {f : FuncId} {a a' : Array Value} (hf : N.S f a.size) (hs : SpecFn P N.F f) (ha : AR (VR N ρ) a a') : SR P N ok Poi (NR P N ok) ρ (callFunc f a) (callFunc f a') := by
 obtain ⟨fn, fn', c, c', h1, h1', h2, h2', h3, h3'⟩ := hs
 unfold callFunc
 refine sr_program ?_
 rw [h1, show (N.here P).funcs[f]? = some fn' from h1']
 dsimp only
 have n1 : ¬((false : Bool) = true) := by decide
 rw [h2, h2', if_neg n1, if_neg n1, h3, h3']
 exact .pure (.spec hf h1 h1' h3 h3' ha)
theorem sr_callFunc (hN : ∀ f, N.N f → FnOk P N ok Poi f) {f : FuncId} (hf : N.N f) {a a' : Array Value} (ha : AR (VR N ρ) a a') : SR P N ok Poi (NR P N ok) ρ (callFunc f a) (callFunc f a') := by
 obtain ⟨fn, h1, h1', h2, h3⟩ := hN f hf
 unfold callFunc
 refine sr_program ?_
 rw [h1, show (N.here P).funcs[f]? = some fn from h1']
 dsimp only
 have n1 : ¬((false : Bool) = true) := by decide
 rw [h2, if_neg n1, if_neg n1]
 rcases h3 with ⟨c, hc, ho⟩ | ⟨h3, h4, e, h5, h6⟩
 ·rw [show fn.body.isNone = false by rw [hc]; rfl, if_neg n1, if_neg n1]
  exact .pure (.enter hf h1 h1' hc ho ha)
 ·have y1 : (true : Bool) = true := rfl
  rw [h3, if_pos y1, if_pos y1, h4, h5]
  dsimp only
  refine .mark (.inr ⟨f, rfl⟩) ?_
  exact (h6 ρ a a' ha).bind fun σ x y _ h => .pure (.value h)
theorem sr_typeInfoB {α β : Type} {A : Emb → α → β → Prop} (t : TypeId) {f : TypeInfo → Sem α} {f' : TypeInfo → Sem β} (h : ∀ i, P.info? t = some i → SR P N ok Poi A ρ (f i) (f' i)) : SR P N ok Poi A ρ (typeInfo t >>= f) (typeInfo t >>= f') := by
 unfold typeInfo
 refine .program ?_
 show SR P N ok Poi A ρ ((match P.info? t with | some i => pure i | none => stuck "no such type") >>= f) ((match P.info? t with | some i => pure i | none => stuck "no such type") >>= f')
 cases hi : P.info? t with
 | none => exact .halt trivial
 | some i => exact h i hi
theorem sr_method (hT : ∀ t, N.T t → MethOk P N t) {t : TypeId} (ht : N.T t) {v v' : Value} (hv : VR N ρ v v') (name : String) (fuel : Nat) : SR P N ok Poi (fun σ a b => a.1 = b.1 ∧ N.N a.1 ∧ VR N σ a.2 b.2) ρ (method fuel t v name) (method fuel t v' name) := by
 obtain ⟨m1, m2⟩ := hT t ht
 cases fuel with
 | zero => exact .halt trivial
 | succ n =>
  unfold method
  refine sr_typeInfoB t fun i hi => ?_
  cases hm : i.methods.find? (·.name == name) with
  | none => exact sr_stuck _ _
  | some m =>
   obtain ⟨hp, f, hf, hN⟩ := m1 i hi m (Array.mem_of_find?_eq_some hm)
   dsimp only
   rw [hp, hf]
   show SR _ _ _ _ _ _ (do pure (f, ← receiverAt t (.val v) false (if (#[] : Array FieldStep).isEmpty then some ((name.splitOn ".").getLastD name) else none))) (do pure (f, ← receiverAt t (.val v') false (if (#[] : Array FieldStep).isEmpty then some ((name.splitOn ".").getLastD name) else none)))
   unfold receiverAt
   simp only [bind_assoc]
   refine (sr_underlying t).bind fun σ d d' hσ e => ?_
   obtain ⟨rfl, he⟩ := e
   cases d with
   | pointer e => exact absurd he (m2 e)
   | _ => exact .pure ⟨rfl, hN, hv.mono hσ⟩
theorem sr_callMethod (hN : ∀ f, N.N f → FnOk P N ok Poi f) (hT : ∀ t, N.T t → MethOk P N t) {v v' : Value} (hv : VR N ρ v v') (name : String) {a a' : Array Value} (ha : AR (VR N ρ) a a') : SR P N ok Poi (NR P N ok) ρ (callMethod v name a) (callMethod v' name a') := by
 unfold callMethod
 cases hv with
 | iface ht h =>
  dsimp only
  refine sr_program ?_
  refine (sr_method hT ht h name _).bind fun σ p q hσ e => ?_
  obtain ⟨p1, p2⟩ := p
  obtain ⟨q1, q2⟩ := q
  obtain ⟨rfl, hn, hv⟩ := e
  exact sr_callFunc hN hn ((AR.empty.push hv).append (ha.mono fun _ _ x => x.mono hσ))
 | nilIface => exact sr_runtimePanic _ _
 | _ => exact sr_stuck _ _
theorem sr_getLoop {l l' : Nat} (h : ρ l = some l') : SR P N ok Poi (fun σ a b => OR N ok σ (.loop a) (.loop b)) ρ (Instr.getLoop l) (Instr.getLoop l') := by
 unfold Instr.getLoop
 refine SR.bind (A := fun τ o o' => OR N ok τ o o') (.getObj h fun o o' ho => .pure ho) fun τ o o' _ ho => ?_
 cases ho with
 | loop hs hp hpo hfn ht hpa has hao hbo hbk hd => exact .pure (.loop hs hp hpo hfn ht hpa has hao hbo hbk hd)
 | _ => exact sr_stuck _ _
theorem AR.setParams {t t' : Array Value} (ht : AR (VR N ρ) t t') (ps : Array Tmp) {a a' : Array Value} (ha : AR (VR N ρ) a a') : AR (VR N ρ) ((ps.zip a).foldl (fun tmps (t, a) => tmps.setIfInBounds t a) t) ((ps.zip a').foldl (fun tmps (t, a) => tmps.setIfInBounds t a) t') := by
 rw [← Array.foldl_toList, ← Array.foldl_toList, Array.toList_zip, Array.toList_zip]
 have key : ∀ (l l' : List Value), LR (VR N ρ) l l' → ∀ (qs : List Tmp) (t t' : Array Value), AR (VR N ρ) t t' → AR (VR N ρ) ((qs.zip l).foldl (fun tmps (t, a) => tmps.setIfInBounds t a) t) ((qs.zip l').foldl (fun tmps (t, a) => tmps.setIfInBounds t a) t') := by
  intro l l' hl
  induction hl with
  | nil => intro qs t t' h; cases qs <;> exact h
  | cons h1 _ ih =>
   intro qs t t' h
   cases qs with
   | nil => exact h
   | cons q qs => exact ih qs _ _ (h.set q h1)
 exact key _ _ ha.toList _ _ _ ht
theorem sr_yield {l l' : Nat} (h : ρ l = some l') {a a' : Array Value} (ha : AR (VR N ρ) a a') : SR P N ok Poi (NR P N ok) ρ (Instr.yield l a) (Instr.yield l' a') := by
 unfold Instr.yield
 refine (sr_getLoop h).bind fun σ r r' hσ e => ?_
 cases e with
 | loop hs hp hpo hfn ht hpa has hao hbo hbk hd =>
  rw [← ha.1, hpa, hfn, has, hbo]
  dsimp only
  split
  ·exact sr_stuck _ _
  ·exact .pure (.round (hσ _ _ h) (ht.setParams _ (ha.mono fun _ _ x => x.mono hσ)) hao hbk)
theorem sr_callValue (hN : ∀ f, N.N f → FnOk P N ok Poi f) {v v' : Value} (hv : VR N ρ v v') {a a' : Array Value} (ha : AR (VR N ρ) a a') : SR P N ok Poi (NR P N ok) ρ (do let d ← Deferred.ofValue v a; invoke d.target d.args) (do let d ← Deferred.ofValue v' a'; invoke d.target d.args) := by
 unfold Deferred.ofValue
 cases hv with
 | @func f hf xs xs' ys ys' sx hx sy hy =>
  show SR _ _ _ _ _ _ (callFunc f (xs ++ a ++ ys)) (callFunc f (xs' ++ a' ++ ys'))
  exact sr_callFunc hN hf ((AR.append ⟨sx, hx⟩ ha).append ⟨sy, hy⟩)
 | @yield l l' h =>
  show SR _ _ _ _ _ _ (Instr.yield l (#[] ++ a)) (Instr.yield l' (#[] ++ a'))
  exact sr_yield h (AR.empty.append ha)
 | nilFunc =>
  show SR _ _ _ _ _ _ (runtimePanic .nilDeref) (runtimePanic .nilDeref)
  exact sr_runtimePanic _ _
 | meth n xs ys =>
  refine .doom fun w => ?_
  obtain ⟨x, w', h, h1, h2⟩ := run_runtimePanic (P := P) (α := Next) .nilDeref w
  refine ⟨x, w', ?_, h1, h2⟩
  rw [← h]
  have e : (#[Value.nilIface] ++ a)[0]? = some .nilIface := by
   rw [Array.getElem?_append]
   rfl
  show (invoke (.fn (.method n) #[]) (#[Value.nilIface] ++ a)).run P w = _
  unfold invoke
  simp only [e]
  rfl
 | _ => exact sr_stuck _ _
theorem ask_grow {α : Type} (x : Ask α) : ∀ w : World, Grow w (w.ask x).2 := by
 induction x with
 | done a => intro w; exact Grow.refl w
 | ask what range k ih =>
  intro w
  unfold World.ask
  dsimp only
  split
  ·exact ih 0 w
  ·have h := ih ((Question.extern what range).cut (w.tape w.drawn (Question.extern what range))) { w with drawn := w.drawn + 1 }
   exact ⟨h.1, h.2.1, h.2.2⟩
theorem sys_grow (w : World) (c : Sys) : Grow w (w.sys c).2 := by
 have h := ask_grow (Kernel.perform c w.os) w
 unfold World.sys
 generalize w.ask (Kernel.perform c w.os) = p at h
 obtain ⟨⟨r, os⟩, w'⟩ := p
 cases r <;> first | exact Grow.refl w | exact h
theorem Grow.trans {a b c : World} (h : Grow a b) (h' : Grow b c) : Grow a c := ⟨Nat.le_trans h.1 h'.1, fun i hi => (h'.2.1 i (Nat.lt_of_lt_of_le hi h.1)).trans (h.2.1 i hi), h'.2.2.trans h.2.2⟩
theorem sr_panicOp {v v' : Value} (hv : VR N ρ v v') : SR P N ok Poi (RV N) ρ (Instr.panic v) (Instr.panic v') := by
 cases hv with
 | iface ht h => exact .halt trivial
 | nilIface =>
  refine .doom fun w => ?_
  have g := sys_grow w .env
  unfold Instr.panic Instr.panicnil sys
  simp only [Sem.run_bind, Sem.run, Result.andThen_ok]
  generalize w.sys .env = p at g
  obtain ⟨r, w'⟩ := p
  cases r with
  | strings l =>
   simp only [Result.andThen_ok, program, Sem.run_bind, Sem.run, Sem.run_pure]
   split
   ·exact ⟨_, _, rfl, trivial, g⟩
   ·obtain ⟨x, w2, h1, h2, h3⟩ := run_runtimePanic (P := P) (α := Value) .panicNil w'
    exact ⟨x, w2, h1, h2, g.trans h3⟩
  | _ => exact ⟨_, _, rfl, trivial, g⟩
 | _ => exact sr_stuck _ _
theorem sr_len {ts : Array TypeId} {t : TypeId} {a a' : Array Value} (ha : AR (VR N ρ) a a') : SR P N ok Poi (RV N) ρ (Builtin.len_ ts t a) (Builtin.len_ ts t a') := by
 unfold Builtin.len_
 cases ht : ts[0]? with
 | none => exact sr_stuck _ _
 | some u =>
  cases hx : a[0]? with
  | none =>
   rw [ha.getNone hx]
   exact sr_stuck _ _
  | some x =>
   obtain ⟨y, h1, h2⟩ := ha.getSome hx
   rw [h1]
   dsimp only
   refine (sr_underlying u).bind fun σ d d' hσ e => ?_
   obtain ⟨rfl, _⟩ := e
   have h2 := h2.mono hσ
   cases d with
   | pointer e =>
    have key : SR P N ok Poi (RV N) σ (underlying e >>= fun d => match d with | .array n _ => pure (goInt n) | _ => stuck "len: pointer to array expected") (underlying e >>= fun d => match d with | .array n _ => pure (goInt n) | _ => stuck "len: pointer to array expected") :=
     (sr_underlying e).bind fun τ d d' _ e => by
      obtain ⟨rfl, _⟩ := e
      cases d <;> first | exact .pure (.int _ _) | exact sr_stuck _ _
    cases h2 <;> exact key
   | array n e => cases h2 <;> exact .pure (.int _ _)
   | _ => cases h2 <;> first | exact .pure (.int _ _) | exact sr_stuck _ _
end
end Go.Proofs.Ytjgleaakgbnjgaa.Par
end
