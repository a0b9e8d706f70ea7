/- The statement SchedLevelsSaid: for every input the law returns true, and each argument reads afterwards as it read before. Conditions: none. -/
import Derived.Test.YtchpeobenlnemaaSx0
import Derived.Test.YtchpeobenlnemaaSxSchedLevel
import Derived.Test.YtchpeobenlnemaaMSchedLevels1
import Derived.Test.YtchpeobenlnemaaXBits
import Derived.Test.YtchpeobenlnemaaSxWideMulDiv
import Derived.Test.YtchpeobenlnemaaSxRateInterest
import Derived.Test.YtchpeobenlnemaaSxMoneyMay
import Derived.Test.YtchpeobenlnemaaSxMoneySizeInt64
import Derived.Test.YtchpeobenlnemaaSxMoneySplit
import Derived.Test.YtchpeobenlnemaaRows
import Derived.WalkKit
import Derived.ProofKit
import Derived.OpenShut
import Derived.ShutString
import Derived.ChangeOld
import Derived.Below
import Derived.SizedLaws
section
namespace Go.Proofs.Ytchpeobenlnemaa.S
open Go.RowKit Go.Proofs.YtchpeobenlnemaaW.PrintWords Go.Proofs.YtchpeobenlnemaaW.PrintLast Go.Proofs.YtchpeobenlnemaaW.PrintMore
attribute [local go_sem] max2_int min2_int max_two min_two max_three min_three max_four min_four   -- for this text's walks alone
attribute [local go_sem] Go.Proofs.Ytchpeobenlnemaa.XWalk.cell2
set_option linter.unusedVariables false
set_option linter.unusedSimpArgs false

theorem eqA43 (d : Nat) (w : World) (x0 y0 : Int) (x1 y1 : Int) (x2 y2 : Int) (x3 y3 : Int) :
    (Op.equalIn (d + 2) 43 (.agg #[.int .i64 x0, .int .i64 x1, .int .i64 x2, .int .i64 x3]) (.agg #[.int .i64 y0, .int .i64 y1, .int .i64 y2, .int .i64 y3])).run Try.prog w = .ok (x0 == y0 && (x1 == y1 && (x2 == y2 && (x3 == y3)))) w := by
  refine eqA_of Try.underlying43 (by kernel_rfl) ?_
  refine eqf_cons (by rfl) (by go_simp; rfl) (by go_simp; rfl) (by go_simp) ?_
  refine eqf_cons (by rfl) (by go_simp; rfl) (by go_simp; rfl) (by go_simp) ?_
  refine eqf_cons (by rfl) (by go_simp; rfl) (by go_simp; rfl) (by go_simp) ?_
  exact eqf_last (by rfl) (by go_simp; rfl) (by go_simp; rfl) (by go_simp)
end Go.Proofs.Ytchpeobenlnemaa.S
end

section
namespace Go.Proofs.Ytchpeobenlnemaa.S
open Go.RowKit Go.Proofs.YtchpeobenlnemaaW.PrintWords Go.Proofs.YtchpeobenlnemaaW.PrintLast Go.Proofs.YtchpeobenlnemaaW.PrintMore
attribute [local go_sem] max2_int min2_int max_two min_two max_three min_three max_four min_four   -- for this text's walks alone
attribute [local go_sem] Go.Proofs.Ytchpeobenlnemaa.XWalk.cell2
set_option linter.unusedVariables false
set_option linter.unusedSimpArgs false

attribute [local go_sem high] eqA43
/-! ### lombardlaw08_alive: function 9 -/
def lombardlaw08_alive.f (k : Nat)  : Option (Bool) := (sched_Build.f k 2 1000 (([10000000000] : List Int)) 4).bind fun bt197 => ((sched_Level.f k 1000 10000000000 4).bind fun bt201 => (if bt197.2 = 0 then (if (bt197.1.length : Int) = 4 then (if 1 < (bt197.1.length : Int) then (if (((rd_T43 bt197.1 1).f0) == 8 && (((rd_T43 bt197.1 1).f1) == 258 && (((rd_T43 bt197.1 1).f2) == 250 && (((rd_T43 bt197.1 1).f3) == 500)))) = true then (if 3 < (bt197.1.length : Int) then (if ((rd_T43 bt197.1 3).f1) = 252 then (if bt201.1 = 257 then (some (bt201.2 == 0)) else (some false)) else (some false)) else (none)) else (some false)) else (none)) else (some false)) else (some false)))
set_option maxHeartbeats 8000000 in
set_option maxRecDepth 100000 in
theorem lombardlaw08_alive.calls (k : Nat)  (r : Bool) (w : World) (h : lombardlaw08_alive.f k  = some r) :
    Calls Try.prog 9 #[] w fun e w' => e = .returned (.bool r) ∧ Below w.heap.size w w' := by
  have hu27 := Try.underlying27
  have hu43 := Try.underlying43
  have HB := Aside0.mk (Below.refl w.heap.size w)
  have H : ((sched_Build.f k 2 1000 (([10000000000] : List Int)) 4).bind fun bt197 => ((sched_Level.f k 1000 10000000000 4).bind fun bt201 => (if bt197.2 = 0 then (if (bt197.1.length : Int) = 4 then (if 1 < (bt197.1.length : Int) then (if (((rd_T43 bt197.1 1).f0) == 8 && (((rd_T43 bt197.1 1).f1) == 258 && (((rd_T43 bt197.1 1).f2) == 250 && (((rd_T43 bt197.1 1).f3) == 500)))) = true then (if 3 < (bt197.1.length : Int) then (if ((rd_T43 bt197.1 3).f1) = 252 then (if bt201.1 = 257 then (some (bt201.2 == 0)) else (some false)) else (some false)) else (none)) else (some false)) else (none)) else (some false)) else (some false)))) = some r := h
  clear h
  obtain ⟨y194, hy194⟩ : ∃ y_ : List Int, y_ = (([10000000000] : List Int)) := ⟨_, rfl⟩
  replace H : ((sched_Build.f k 2 1000 y194 4).bind fun bt197 => ((sched_Level.f k 1000 10000000000 4).bind fun bt201 => (if bt197.2 = 0 then (if (bt197.1.length : Int) = 4 then (if 1 < (bt197.1.length : Int) then (if (((rd_T43 bt197.1 1).f0) == 8 && (((rd_T43 bt197.1 1).f1) == 258 && (((rd_T43 bt197.1 1).f2) == 250 && (((rd_T43 bt197.1 1).f3) == 500)))) = true then (if 3 < (bt197.1.length : Int) then (if ((rd_T43 bt197.1 3).f1) = 252 then (if bt201.1 = 257 then (some (bt201.2 == 0)) else (some false)) else (some false)) else (none)) else (some false)) else (none)) else (some false)) else (some false)))) = some r := by first | (rw [hy194]; with_reducible exact H) | (have H2_ := (Option.bind_some _ _).symm.trans H; rw [hy194]; with_reducible exact H2_) | (have H2_ := (Option.bind_some _ _).symm.trans H; with_reducible exact H2_) | with_reducible exact H | (rw [hy194]; exact H) | exact H
  have Ny194 := Aside0.mk hy194
  clear hy194
  replace H := Option.bind_eq_some_iff.mp H
  obtain ⟨⟨t197, t200⟩, A10, H⟩ := H
  replace H : ((sched_Level.f k 1000 10000000000 4).bind fun bt201 => (if t200 = 0 then (if (t197.length : Int) = 4 then (if 1 < (t197.length : Int) then (if (((rd_T43 t197 1).f0) == 8 && (((rd_T43 t197 1).f1) == 258 && (((rd_T43 t197 1).f2) == 250 && (((rd_T43 t197 1).f3) == 500)))) = true then (if 3 < (t197.length : Int) then (if ((rd_T43 t197 3).f1) = 252 then (if bt201.1 = 257 then (some (bt201.2 == 0)) else (some false)) else (some false)) else (none)) else (some false)) else (none)) else (some false)) else (some false))) = some r := H
  have A1 := Aside0.mk A10
  clear A10
  replace H := Option.bind_eq_some_iff.mp H
  obtain ⟨⟨t201, t202⟩, A20, H⟩ := H
  replace H : (if t200 = 0 then (if (t197.length : Int) = 4 then (if 1 < (t197.length : Int) then (if (((rd_T43 t197 1).f0) == 8 && (((rd_T43 t197 1).f1) == 258 && (((rd_T43 t197 1).f2) == 250 && (((rd_T43 t197 1).f3) == 500)))) = true then (if 3 < (t197.length : Int) then (if ((rd_T43 t197 3).f1) = 252 then (if t201 = 257 then (some (t202 == 0)) else (some false)) else (some false)) else (none)) else (some false)) else (none)) else (some false)) else (some false)) = some r := H
  have A2 := Aside0.mk A20
  clear A20
  have HC3 := Aside0.mk H
  clear H
  go_enter Try.func9, Try.ntmps9
  go_upto_region 3 with (first | ((with_reducible refine gate_dst (N := 6) rfl ?_); (try (refine gate_guard (by rfl) ?_; dsimp only)); refine Kd.R_lit (Kd.int .i64) _ 2 ?hg (N := 6) ?hd (xs := ([10000000000] : List Int)) (inner := [.int .i64 10000000000]) (ok := fun _ => True) (okp := fun _ => True) ?hr ?hp (fun _ hk => hk) trivial (Below.refl _ _) (Nat.le_refl _) (by simp) ?_; (case hd => rfl); (case hg => rfl); (case hr => first | (go_simp; done) | (go_simp; rfl)); (case hp => exact (Reps.one (show Kd.M (Kd.int .i64) _ _ _ 10000000000 [.int .i64 10000000000] from rfl) (Reps.none _ _))); intro v195 w4 ho5 hb hg_ hnew_; clear hg_ hnew_; (first | rw [← Ny194.out] at ho5 | (simp only [Int.reduceToNat] at ho5; rw [← Ny194.out] at ho5)); have n0_ := Aside0.mk (Kd.R_lower ho5 (below_size (by repeat (first | (with_reducible first | exact HB.out | apply below_alloc | apply pw_below_drewN | apply below_drew1) | exact HB.out)))); have n1_ := Aside0.mk (below_step (by repeat (first | (with_reducible first | exact HB.out | apply below_alloc | apply pw_below_drewN | apply below_drew1) | exact HB.out)) hb); clear HB; have HO196 := n0_; have HB := n1_; clear n0_ n1_; clear hb ho5; obtain ⟨Ao6, co6, eo6⟩ := Kd.R_slice HO196.out; subst eo6) | ((with_reducible refine gate_callee (f := 11) rfl ?_); refine goesL_ (some 8) rfl rfl Try.func11 (by kernel_rfl) rfl #[.agg #[.int .i64 2, .int .i64 1000, .slice Ao6 y194.length co6, .int .i64 4]] rfl (by (try simp only [List.map_toArray, List.map_cons, List.map_nil]); first | done | rfl | (simp only [List.length_drop, List.length_take]; rfl)) ?_; (with_reducible refine (sched_Build.calls k 2 1000 _ _ y194 4 t197 t200 _ ?side1 ?side2 A1.out).mono ?_); (case side1 => repeat (first | exact (Kd.R_reads' HO196.out).2.2 | (with_reducible refine Kd.C_alloc ?_ _) | (with_reducible refine Kd.C_drewN ?_ _) | (with_reducible refine Kd.C_drew ?_))); (case side2 => exact (Kd.R_reads' HO196.out).2.1); rintro e w7 ⟨v198, rfl, ho0, hb⟩; refine ⟨_, rfl, ?_⟩; have n0_ := Aside0.mk (Kd.R_below (by (with_reducible repeat (first | apply Kd.R_alloc | apply Kd.R_drewN | apply Kd.R_drew)); exact HO196.out) hb); have n1_ := Aside0.mk (Kd.R_lower ho0 (below_size (by repeat (first | (with_reducible first | exact HB.out | apply below_alloc | apply pw_below_drewN | apply below_drew1) | exact HB.out)))); have n2_ := Aside0.mk (below_step (by repeat (first | (with_reducible first | exact HB.out | apply below_alloc | apply pw_below_drewN | apply below_drew1) | exact HB.out)) hb); clear HO196; clear HB; have HO196 := n0_; have HO199 := n1_; have HB := n2_; clear n0_ n1_ n2_; (try clear hb); (try clear hb2); (try clear hk); (try clear hi); (try clear ho0)) | ((with_reducible refine gate_callee (f := 17) rfl ?_); refine goesL_ (some 12) rfl rfl Try.func17 (by kernel_rfl) rfl #[.int .i64 1000, .int .i64 10000000000, .int .i64 4] rfl (by (try simp only [List.map_toArray, List.map_cons, List.map_nil]); first | done | rfl | (simp only [List.length_drop, List.length_take]; rfl)) ?_; (with_reducible refine (sched_Level.calls k 1000 10000000000 4 t201 t202 _ A2.out).mono ?_); rintro e w8 ⟨rfl, hb⟩; refine ⟨_, rfl, ?_⟩; have n0_ := Aside0.mk (Kd.R_below (by (with_reducible repeat (first | apply Kd.R_alloc | apply Kd.R_drewN | apply Kd.R_drew)); exact HO196.out) hb); have n1_ := Aside0.mk (Kd.R_below (by (with_reducible repeat (first | apply Kd.R_alloc | apply Kd.R_drewN | apply Kd.R_drew)); exact HO199.out) hb); have n2_ := Aside0.mk (below_step (by repeat (first | (with_reducible first | exact HB.out | apply below_alloc | apply pw_below_drewN | apply below_drew1) | exact HB.out)) hb); clear HO196; clear HO199; clear HB; have HO196 := n0_; have HO199 := n1_; have HB := n2_; clear n0_ n1_ n2_; (try clear hb); (try clear hb2); (try clear hk); (try clear hi)))
  have H := HC3.out
  clear HC3
  by_cases c9 : t200 = 0
  · rw [if_pos c9] at H
    have c9b0 : (t200 == 0) = true := beq_iff_eq.mpr c9
    have c9b1 : (t200 != 0) = false := bne_eq_false_iff_eq.mpr c9
    clear c9
    by_cases c10 : (t197.length : Int) = 4
    · rw [if_pos c10] at H
      have c10b0 : ((t197.length : Int) == 4) = true := beq_iff_eq.mpr c10
      have c10b1 : ((t197.length : Int) != 4) = false := bne_eq_false_iff_eq.mpr c10
      clear c10
      by_cases c11 : 1 < (t197.length : Int)
      · rw [if_pos c11] at H
        have c11b0 : decide (1 < (t197.length : Int)) = true := decide_eq_true c11
        have c11b1 : decide (1 < t197.length) = true := decide_eq_true (by omega)
        clear c11
        by_cases c12 : (((rd_T43 t197 1).f0) == 8 && (((rd_T43 t197 1).f1) == 258 && (((rd_T43 t197 1).f2) == 250 && (((rd_T43 t197 1).f3) == 500)))) = true
        · rw [if_pos c12] at H
          have c12b0 : (((rd_T43 t197 1).f0) == 8 && (((rd_T43 t197 1).f1) == 258 && (((rd_T43 t197 1).f2) == 250 && (((rd_T43 t197 1).f3) == 500)))) = true := c12
          (try (have c12b1 : decide (((rd_T43 t197 1).f0) = 8 && (((rd_T43 t197 1).f1) == 258 && (((rd_T43 t197 1).f2) == 250 && (((rd_T43 t197 1).f3) == 500)))) = true := by simpa using c12))
          (try (have c12b2 : (((rd_T43 t197 1).f0) == 8 && (((rd_T43 t197 1).f1) == 258 && (((rd_T43 t197 1).f2) == 250 && (((rd_T43 t197 1).f3) == 500)))) = true := by simpa using c12))
          clear c12
          by_cases c13 : 3 < (t197.length : Int)
          · rw [if_pos c13] at H
            have c13b0 : decide (3 < (t197.length : Int)) = true := decide_eq_true c13
            have c13b1 : decide (3 < t197.length) = true := decide_eq_true (by omega)
            clear c13
            by_cases c14 : ((rd_T43 t197 3).f1) = 252
            · rw [if_pos c14] at H
              have c14b0 : (((rd_T43 t197 3).f1) == 252) = true := beq_iff_eq.mpr c14
              have c14b1 : (((rd_T43 t197 3).f1) != 252) = false := bne_eq_false_iff_eq.mpr c14
              clear c14
              by_cases c15 : t201 = 257
              · rw [if_pos c15] at H
                have c15b0 : (t201 == 257) = true := beq_iff_eq.mpr c15
                have c15b1 : (t201 != 257) = false := bne_eq_false_iff_eq.mpr c15
                clear c15
                obtain rfl := Option.some.inj H
                obtain ⟨Ao16, co16, eo16⟩ := Kd.R_slice HO199.out
                subst eo16
                have p203 : 0 ≤ (1 : Int) := (by omega)
                have q203 : 1 < (t197.length : Int) := of_decide_eq_true (by first | (with_reducible assumption) | assumption)
                obtain ⟨ad203, e203, hx203_0, hx203_1, hx203_2, hx203_3⟩ := at_T43 (Kd.R_reads' HO199.out).2.2 1 p203 q203
                cases e203
                (try simp only [show (1 : Int).toNat = 1 from rfl, Nat.reduceMul, Nat.reduceEqDiff, Go.Addr.add, ↓reduceIte] at hx203_0)
                (try simp only [show (1 : Int).toNat = 1 from rfl, Nat.reduceMul, Nat.reduceEqDiff, Go.Addr.add, ↓reduceIte] at hx203_1)
                (try simp only [show (1 : Int).toNat = 1 from rfl, Nat.reduceMul, Nat.reduceEqDiff, Go.Addr.add, ↓reduceIte] at hx203_2)
                (try simp only [show (1 : Int).toNat = 1 from rfl, Nat.reduceMul, Nat.reduceEqDiff, Go.Addr.add, ↓reduceIte] at hx203_3)
                have qi203 : (1 < t197.length) = True := eq_true (by omega)
                (try rw [show ((1 : Int)).toNat = 1 from rfl] at hx203_0)
                (try rw [show 1 * 4 = 4 from rfl] at hx203_0)
                (try rw [show ((1 : Int)).toNat = 1 from rfl] at hx203_1)
                (try rw [show 1 * 4 = 4 from rfl] at hx203_1)
                (try rw [show ((1 : Int)).toNat = 1 from rfl] at hx203_2)
                (try rw [show 1 * 4 = 4 from rfl] at hx203_2)
                (try rw [show ((1 : Int)).toNat = 1 from rfl] at hx203_3)
                (try rw [show 1 * 4 = 4 from rfl] at hx203_3)
                replace p203 := eq_true p203
                replace q203 := eq_true q203
                have p204 : 0 ≤ (3 : Int) := (by omega)
                have q204 : 3 < (t197.length : Int) := of_decide_eq_true (by first | (with_reducible assumption) | assumption)
                obtain ⟨ad204, e204, hx204_0, hx204_1, hx204_2, hx204_3⟩ := at_T43 (Kd.R_reads' HO199.out).2.2 3 p204 q204
                obtain rfl : ad203 = ad204 := (by injection e204)
                (try simp only [show (3 : Int).toNat = 3 from rfl, Nat.reduceMul, Nat.reduceEqDiff, Go.Addr.add, ↓reduceIte] at hx204_0)
                (try simp only [show (3 : Int).toNat = 3 from rfl, Nat.reduceMul, Nat.reduceEqDiff, Go.Addr.add, ↓reduceIte] at hx204_1)
                (try simp only [show (3 : Int).toNat = 3 from rfl, Nat.reduceMul, Nat.reduceEqDiff, Go.Addr.add, ↓reduceIte] at hx204_2)
                (try simp only [show (3 : Int).toNat = 3 from rfl, Nat.reduceMul, Nat.reduceEqDiff, Go.Addr.add, ↓reduceIte] at hx204_3)
                have qi204 : (3 < t197.length) = True := eq_true (by omega)
                (try rw [show ((3 : Int)).toNat = 3 from rfl] at hx204_0)
                (try rw [show 3 * 4 = 12 from rfl] at hx204_0)
                (try rw [show ((3 : Int)).toNat = 3 from rfl] at hx204_1)
                (try rw [show 3 * 4 = 12 from rfl] at hx204_1)
                (try rw [show ((3 : Int)).toNat = 3 from rfl] at hx204_2)
                (try rw [show 3 * 4 = 12 from rfl] at hx204_2)
                (try rw [show ((3 : Int)).toNat = 3 from rfl] at hx204_3)
                (try rw [show 3 * 4 = 12 from rfl] at hx204_3)
                replace p204 := eq_true p204
                replace q204 := eq_true q204
                go_wp2
                go_ret
                exact ⟨by first | rfl | (simp [errW_none, errW_some] <;> rfl) | (simp [*, errW_none, errW_some] <;> rfl), by repeat (first | (with_reducible first | exact HB.out | apply below_alloc | apply pw_below_drewN | apply below_drew1) | exact HB.out)⟩
              · rw [if_neg c15] at H
                have c15b0 : (t201 == 257) = false := beq_eq_false_iff_ne.mpr c15
                have c15b1 : (t201 != 257) = true := bne_iff_ne.mpr c15
                obtain rfl := Option.some.inj H
                obtain ⟨Ao17, co17, eo17⟩ := Kd.R_slice HO199.out
                subst eo17
                have p203 : 0 ≤ (1 : Int) := (by omega)
                have q203 : 1 < (t197.length : Int) := of_decide_eq_true (by first | (with_reducible assumption) | assumption)
                obtain ⟨ad203, e203, hx203_0, hx203_1, hx203_2, hx203_3⟩ := at_T43 (Kd.R_reads' HO199.out).2.2 1 p203 q203
                cases e203
                (try simp only [show (1 : Int).toNat = 1 from rfl, Nat.reduceMul, Nat.reduceEqDiff, Go.Addr.add, ↓reduceIte] at hx203_0)
                (try simp only [show (1 : Int).toNat = 1 from rfl, Nat.reduceMul, Nat.reduceEqDiff, Go.Addr.add, ↓reduceIte] at hx203_1)
                (try simp only [show (1 : Int).toNat = 1 from rfl, Nat.reduceMul, Nat.reduceEqDiff, Go.Addr.add, ↓reduceIte] at hx203_2)
                (try simp only [show (1 : Int).toNat = 1 from rfl, Nat.reduceMul, Nat.reduceEqDiff, Go.Addr.add, ↓reduceIte] at hx203_3)
                have qi203 : (1 < t197.length) = True := eq_true (by omega)
                (try rw [show ((1 : Int)).toNat = 1 from rfl] at hx203_0)
                (try rw [show 1 * 4 = 4 from rfl] at hx203_0)
                (try rw [show ((1 : Int)).toNat = 1 from rfl] at hx203_1)
                (try rw [show 1 * 4 = 4 from rfl] at hx203_1)
                (try rw [show ((1 : Int)).toNat = 1 from rfl] at hx203_2)
                (try rw [show 1 * 4 = 4 from rfl] at hx203_2)
                (try rw [show ((1 : Int)).toNat = 1 from rfl] at hx203_3)
                (try rw [show 1 * 4 = 4 from rfl] at hx203_3)
                replace p203 := eq_true p203
                replace q203 := eq_true q203
                have p204 : 0 ≤ (3 : Int) := (by omega)
                have q204 : 3 < (t197.length : Int) := of_decide_eq_true (by first | (with_reducible assumption) | assumption)
                obtain ⟨ad204, e204, hx204_0, hx204_1, hx204_2, hx204_3⟩ := at_T43 (Kd.R_reads' HO199.out).2.2 3 p204 q204
                obtain rfl : ad203 = ad204 := (by injection e204)
                (try simp only [show (3 : Int).toNat = 3 from rfl, Nat.reduceMul, Nat.reduceEqDiff, Go.Addr.add, ↓reduceIte] at hx204_0)
                (try simp only [show (3 : Int).toNat = 3 from rfl, Nat.reduceMul, Nat.reduceEqDiff, Go.Addr.add, ↓reduceIte] at hx204_1)
                (try simp only [show (3 : Int).toNat = 3 from rfl, Nat.reduceMul, Nat.reduceEqDiff, Go.Addr.add, ↓reduceIte] at hx204_2)
                (try simp only [show (3 : Int).toNat = 3 from rfl, Nat.reduceMul, Nat.reduceEqDiff, Go.Addr.add, ↓reduceIte] at hx204_3)
                have qi204 : (3 < t197.length) = True := eq_true (by omega)
                (try rw [show ((3 : Int)).toNat = 3 from rfl] at hx204_0)
                (try rw [show 3 * 4 = 12 from rfl] at hx204_0)
                (try rw [show ((3 : Int)).toNat = 3 from rfl] at hx204_1)
                (try rw [show 3 * 4 = 12 from rfl] at hx204_1)
                (try rw [show ((3 : Int)).toNat = 3 from rfl] at hx204_2)
                (try rw [show 3 * 4 = 12 from rfl] at hx204_2)
                (try rw [show ((3 : Int)).toNat = 3 from rfl] at hx204_3)
                (try rw [show 3 * 4 = 12 from rfl] at hx204_3)
                replace p204 := eq_true p204
                replace q204 := eq_true q204
                go_wp2
                go_ret
                exact ⟨by first | rfl | (simp [errW_none, errW_some] <;> rfl) | (simp [*, errW_none, errW_some] <;> rfl), by repeat (first | (with_reducible first | exact HB.out | apply below_alloc | apply pw_below_drewN | apply below_drew1) | exact HB.out)⟩
            · rw [if_neg c14] at H
              have c14b0 : (((rd_T43 t197 3).f1) == 252) = false := beq_eq_false_iff_ne.mpr c14
              have c14b1 : (((rd_T43 t197 3).f1) != 252) = true := bne_iff_ne.mpr c14
              obtain rfl := Option.some.inj H
              obtain ⟨Ao18, co18, eo18⟩ := Kd.R_slice HO199.out
              subst eo18
              have p203 : 0 ≤ (1 : Int) := (by omega)
              have q203 : 1 < (t197.length : Int) := of_decide_eq_true (by first | (with_reducible assumption) | assumption)
              obtain ⟨ad203, e203, hx203_0, hx203_1, hx203_2, hx203_3⟩ := at_T43 (Kd.R_reads' HO199.out).2.2 1 p203 q203
              cases e203
              (try simp only [show (1 : Int).toNat = 1 from rfl, Nat.reduceMul, Nat.reduceEqDiff, Go.Addr.add, ↓reduceIte] at hx203_0)
              (try simp only [show (1 : Int).toNat = 1 from rfl, Nat.reduceMul, Nat.reduceEqDiff, Go.Addr.add, ↓reduceIte] at hx203_1)
              (try simp only [show (1 : Int).toNat = 1 from rfl, Nat.reduceMul, Nat.reduceEqDiff, Go.Addr.add, ↓reduceIte] at hx203_2)
              (try simp only [show (1 : Int).toNat = 1 from rfl, Nat.reduceMul, Nat.reduceEqDiff, Go.Addr.add, ↓reduceIte] at hx203_3)
              have qi203 : (1 < t197.length) = True := eq_true (by omega)
              (try rw [show ((1 : Int)).toNat = 1 from rfl] at hx203_0)
              (try rw [show 1 * 4 = 4 from rfl] at hx203_0)
              (try rw [show ((1 : Int)).toNat = 1 from rfl] at hx203_1)
              (try rw [show 1 * 4 = 4 from rfl] at hx203_1)
              (try rw [show ((1 : Int)).toNat = 1 from rfl] at hx203_2)
              (try rw [show 1 * 4 = 4 from rfl] at hx203_2)
              (try rw [show ((1 : Int)).toNat = 1 from rfl] at hx203_3)
              (try rw [show 1 * 4 = 4 from rfl] at hx203_3)
              replace p203 := eq_true p203
              replace q203 := eq_true q203
              have p204 : 0 ≤ (3 : Int) := (by omega)
              have q204 : 3 < (t197.length : Int) := of_decide_eq_true (by first | (with_reducible assumption) | assumption)
              obtain ⟨ad204, e204, hx204_0, hx204_1, hx204_2, hx204_3⟩ := at_T43 (Kd.R_reads' HO199.out).2.2 3 p204 q204
              obtain rfl : ad203 = ad204 := (by injection e204)
              (try simp only [show (3 : Int).toNat = 3 from rfl, Nat.reduceMul, Nat.reduceEqDiff, Go.Addr.add, ↓reduceIte] at hx204_0)
              (try simp only [show (3 : Int).toNat = 3 from rfl, Nat.reduceMul, Nat.reduceEqDiff, Go.Addr.add, ↓reduceIte] at hx204_1)
              (try simp only [show (3 : Int).toNat = 3 from rfl, Nat.reduceMul, Nat.reduceEqDiff, Go.Addr.add, ↓reduceIte] at hx204_2)
              (try simp only [show (3 : Int).toNat = 3 from rfl, Nat.reduceMul, Nat.reduceEqDiff, Go.Addr.add, ↓reduceIte] at hx204_3)
              have qi204 : (3 < t197.length) = True := eq_true (by omega)
              (try rw [show ((3 : Int)).toNat = 3 from rfl] at hx204_0)
              (try rw [show 3 * 4 = 12 from rfl] at hx204_0)
              (try rw [show ((3 : Int)).toNat = 3 from rfl] at hx204_1)
              (try rw [show 3 * 4 = 12 from rfl] at hx204_1)
              (try rw [show ((3 : Int)).toNat = 3 from rfl] at hx204_2)
              (try rw [show 3 * 4 = 12 from rfl] at hx204_2)
              (try rw [show ((3 : Int)).toNat = 3 from rfl] at hx204_3)
              (try rw [show 3 * 4 = 12 from rfl] at hx204_3)
              replace p204 := eq_true p204
              replace q204 := eq_true q204
              go_wp2
              go_ret
              exact ⟨by first | rfl | (simp [errW_none, errW_some] <;> rfl) | (simp [*, errW_none, errW_some] <;> rfl), by repeat (first | (with_reducible first | exact HB.out | apply below_alloc | apply pw_below_drewN | apply below_drew1) | exact HB.out)⟩
          · rw [if_neg c13] at H
            exact absurd H (by simp)
        · rw [if_neg c12] at H
          have c12b0 : (((rd_T43 t197 1).f0) == 8 && (((rd_T43 t197 1).f1) == 258 && (((rd_T43 t197 1).f2) == 250 && (((rd_T43 t197 1).f3) == 500)))) = false := by simpa using c12
          (try (have c12b1 : decide (((rd_T43 t197 1).f0) = 8 && (((rd_T43 t197 1).f1) == 258 && (((rd_T43 t197 1).f2) == 250 && (((rd_T43 t197 1).f3) == 500)))) = false := by simpa using c12))
          (try (have c12b2 : (((rd_T43 t197 1).f0) == 8 && (((rd_T43 t197 1).f1) == 258 && (((rd_T43 t197 1).f2) == 250 && (((rd_T43 t197 1).f3) == 500)))) = false := by simpa using c12))
          (try (have c12b3 : ¬ (((rd_T43 t197 1).f0) = 8 && (((rd_T43 t197 1).f1) == 258 && (((rd_T43 t197 1).f2) == 250 && (((rd_T43 t197 1).f3) == 500)))) := by simpa using c12))
          clear c12
          obtain rfl := Option.some.inj H
          obtain ⟨Ao19, co19, eo19⟩ := Kd.R_slice HO199.out
          subst eo19
          have p203 : 0 ≤ (1 : Int) := (by omega)
          have q203 : 1 < (t197.length : Int) := of_decide_eq_true (by first | (with_reducible assumption) | assumption)
          obtain ⟨ad203, e203, hx203_0, hx203_1, hx203_2, hx203_3⟩ := at_T43 (Kd.R_reads' HO199.out).2.2 1 p203 q203
          cases e203
          (try simp only [show (1 : Int).toNat = 1 from rfl, Nat.reduceMul, Nat.reduceEqDiff, Go.Addr.add, ↓reduceIte] at hx203_0)
          (try simp only [show (1 : Int).toNat = 1 from rfl, Nat.reduceMul, Nat.reduceEqDiff, Go.Addr.add, ↓reduceIte] at hx203_1)
          (try simp only [show (1 : Int).toNat = 1 from rfl, Nat.reduceMul, Nat.reduceEqDiff, Go.Addr.add, ↓reduceIte] at hx203_2)
          (try simp only [show (1 : Int).toNat = 1 from rfl, Nat.reduceMul, Nat.reduceEqDiff, Go.Addr.add, ↓reduceIte] at hx203_3)
          have qi203 : (1 < t197.length) = True := eq_true (by omega)
          (try rw [show ((1 : Int)).toNat = 1 from rfl] at hx203_0)
          (try rw [show 1 * 4 = 4 from rfl] at hx203_0)
          (try rw [show ((1 : Int)).toNat = 1 from rfl] at hx203_1)
          (try rw [show 1 * 4 = 4 from rfl] at hx203_1)
          (try rw [show ((1 : Int)).toNat = 1 from rfl] at hx203_2)
          (try rw [show 1 * 4 = 4 from rfl] at hx203_2)
          (try rw [show ((1 : Int)).toNat = 1 from rfl] at hx203_3)
          (try rw [show 1 * 4 = 4 from rfl] at hx203_3)
          replace p203 := eq_true p203
          replace q203 := eq_true q203
          go_wp2
          go_ret
          exact ⟨by first | rfl | (simp [errW_none, errW_some] <;> rfl) | (simp [*, errW_none, errW_some] <;> rfl), by repeat (first | (with_reducible first | exact HB.out | apply below_alloc | apply pw_below_drewN | apply below_drew1) | exact HB.out)⟩
      · rw [if_neg c11] at H
        exact absurd H (by simp)
    · rw [if_neg c10] at H
      have c10b0 : ((t197.length : Int) == 4) = false := beq_eq_false_iff_ne.mpr c10
      have c10b1 : ((t197.length : Int) != 4) = true := bne_iff_ne.mpr c10
      obtain rfl := Option.some.inj H
      obtain ⟨Ao20, co20, eo20⟩ := Kd.R_slice HO199.out
      subst eo20
      go_wp2
      go_ret
      exact ⟨by first | rfl | (simp [errW_none, errW_some] <;> rfl) | (simp [*, errW_none, errW_some] <;> rfl), by repeat (first | (with_reducible first | exact HB.out | apply below_alloc | apply pw_below_drewN | apply below_drew1) | exact HB.out)⟩
  · rw [if_neg c9] at H
    have c9b0 : (t200 == 0) = false := beq_eq_false_iff_ne.mpr c9
    have c9b1 : (t200 != 0) = true := bne_iff_ne.mpr c9
    obtain rfl := Option.some.inj H
    go_wp2
    go_ret
    exact ⟨by first | rfl | (simp [errW_none, errW_some] <;> rfl) | (simp [*, errW_none, errW_some] <;> rfl), by repeat (first | (with_reducible first | exact HB.out | apply below_alloc | apply pw_below_drewN | apply below_drew1) | exact HB.out)⟩

end Go.Proofs.Ytchpeobenlnemaa.S
end

section
namespace Go.Proofs.Ytchpeobenlnemaa.S
open Go.RowKit Go.Proofs.YtchpeobenlnemaaW.PrintWords Go.Proofs.YtchpeobenlnemaaW.PrintLast Go.Proofs.YtchpeobenlnemaaW.PrintMore
attribute [local go_sem] max2_int min2_int max_two min_two max_three min_three max_four min_four   -- for this text's walks alone
attribute [local go_sem] Go.Proofs.Ytchpeobenlnemaa.XWalk.cell2
set_option linter.unusedVariables false
set_option linter.unusedSimpArgs false

/-! ### lombardref03_May: function 54 -/
def lombardref03_May.f (a0 : Int) : Option (Bool) := if a0 ≥ (-990000000000) then (some (decide (a0 ≤ 10000000000000))) else (some false)
set_option maxHeartbeats 8000000 in
set_option maxRecDepth 100000 in
theorem lombardref03_May.calls (a0 : Int) (r : Bool) (w : World) (h : lombardref03_May.f a0 = some r) :
    Calls Try.prog 54 #[.int .i64 a0] w fun e w' => e = .returned (.bool r) ∧ Drawn0 w w' := by
  have H : (if a0 ≥ (-990000000000) then (some (decide (a0 ≤ 10000000000000))) else (some false)) = some r := h
  clear h
  by_cases c2 : a0 ≥ (-990000000000)
  · rw [if_pos c2] at H
    have c2b0 : decide ((-990000000000) ≤ a0) = true := decide_eq_true c2
    clear c2
    obtain rfl := Option.some.inj H
    go_enter Try.func54, Try.ntmps54
    go_wp2
    go_ret
    exact ⟨by first | rfl | (simp; done) | (simp [*]; done), by repeat (first | exact Drawn0.refl _ | apply Drawn0.step)⟩
  · rw [if_neg c2] at H
    have c2b0 : decide ((-990000000000) ≤ a0) = false := decide_eq_false c2
    clear c2
    obtain rfl := Option.some.inj H
    go_enter Try.func54, Try.ntmps54
    go_wp2
    go_ret
    exact ⟨by first | rfl | (simp; done) | (simp [*]; done), by repeat (first | exact Drawn0.refl _ | apply Drawn0.step)⟩

end Go.Proofs.Ytchpeobenlnemaa.S
end

section
namespace Go.Proofs.Ytchpeobenlnemaa.S
open Go.RowKit Go.Proofs.YtchpeobenlnemaaW.PrintWords Go.Proofs.YtchpeobenlnemaaW.PrintLast Go.Proofs.YtchpeobenlnemaaW.PrintMore
attribute [local go_sem] max2_int min2_int max_two min_two max_three min_three max_four min_four   -- for this text's walks alone
attribute [local go_sem] Go.Proofs.Ytchpeobenlnemaa.XWalk.cell2
set_option linter.unusedVariables false
set_option linter.unusedSimpArgs false

/-! ### lombardref02_plus: function 69 -/
-- IMPORT BigMath
theorem lombardref02_plus.round {a b S i : Nat} {c : Nat} (hc : c = Go.Proofs.Ytchpeobenlnemaa.BigMath.carry a b i) (hS : S = a + b) :
    bits .and .u8 ((B.bit a i + B.bit b i + (c : Int)) % 256) 1 = B.bit S i ∧ (B.bit a i + B.bit b i + (c : Int)) % 256 / 2 = (Go.Proofs.Ytchpeobenlnemaa.BigMath.carry a b (i + 1) : Nat) := by
  have h := Go.Proofs.Ytchpeobenlnemaa.BigMath.plus_step a b i
  have h1 := Go.Proofs.Ytchpeobenlnemaa.BigMath.bitN_lt a i
  have h2 := Go.Proofs.Ytchpeobenlnemaa.BigMath.bitN_lt b i
  have h3 := Go.Proofs.Ytchpeobenlnemaa.BigMath.bitN_lt (a + b) i
  have h4 := Go.Proofs.Ytchpeobenlnemaa.BigMath.carry_lt a b i
  subst hc hS
  unfold B.bit
  rw [B.and1 (by omega) (by omega)]
  omega
set_option maxRecDepth 100000 in
set_option maxHeartbeats 4000000 in
theorem lombardref02_plus.calls (a b : Nat) (w : World) : Calls Try.prog 69 #[.agg (B.cells a), .agg (B.cells b)] w fun e w' => e = .returned (.agg (B.cells ((a + b) % 2 ^ 260))) ∧ Below w.heap.size w w' := by
  obtain ⟨S, hS⟩ : ∃ S : Nat, S = a + b := ⟨_, rfl⟩
  obtain ⟨m, hm⟩ : ∃ m : Nat, m = 260 := ⟨_, rfl⟩
  rw [← hS]
  suffices h : Calls Try.prog 69 #[.agg (B.cells a), .agg (B.cells b)] w fun e w' => e = .returned (.agg (B.cells (S % 2 ^ m))) ∧ Below w.heap.size w w' by
    rw [hm] at h
    exact h
  have HS := Aside0.mk hS
  have HM := Aside0.mk hm
  clear hS hm
  go_enter Try.func69, Try.ntmps69
  go_wp2
  go_loopg [6, 7] 260 (fun kq v6 v7 w' => ∃ (c i : Nat), v6 = .int .u8 c ∧ v7 = .int .i64 i ∧ Aside0 (i + kq = 260) ∧ Aside0 (c = Go.Proofs.Ytchpeobenlnemaa.BigMath.carry a b i) ∧ Aside0 (B.Has w' w.heap.size a) ∧ Aside0 (B.Has w' (w.heap.size + 1) b) ∧ Aside0 (B.Has w' (w.heap.size + 1 + 1) 0) ∧ Aside0 (B.Has w' (w.heap.size + 1 + 1 + 1) (S % 2 ^ i)) ∧ Aside0 (Below w.heap.size w w'))
  case atStart =>
    have h1 := B.Has.new w a
    have h2 := B.Has.new (w.alloc (.cells (B.cells a) 91)) b
    have h3 := B.Has.new0 ((w.alloc (.cells (B.cells a) 91)).alloc (.cells (B.cells b) 91))
    have h4 := B.Has.new0 (((w.alloc (.cells (B.cells a) 91)).alloc (.cells (B.cells b) 91)).alloc (.cells Try.zeroCells91 91))
    simp only [World.size_alloc] at h2 h3 h4
    refine ⟨0, 0, rfl, rfl, ⟨rfl⟩, ⟨(Go.Proofs.Ytchpeobenlnemaa.BigMath.carry_zero a b).symm⟩, ⟨((h1.alloc _).alloc _).alloc _⟩, ⟨(h2.alloc _).alloc _⟩, ⟨h3.alloc _⟩, ⟨?_⟩, ⟨?_⟩⟩
    · rw [Nat.pow_zero, Nat.mod_one]
      exact h4
    · exact below_alloc (below_alloc (below_alloc (below_alloc (Below.refl _ w) _) _) _) _
  case round =>
    obtain ⟨c, i, rfl, rfl, hik, hc, hA, hB, hZ, hO, hW⟩ := hrel
    cases gk with
    | zero =>
      have q1 : decide ((i : Int) < 260) = false := decide_eq_false (by have := hik.out; omega)
      have e : i = m := by have := hik.out; have := HM.out; omega
      have E := Aside0.mk e
      clear e
      go_wp2_with (first | (refine wpList_load_row rfl 91 (.tmp 5) rfl (w.heap.size + 1 + 1 + 1) rfl 91 (B.cells (S % 2 ^ i)) (0, 0) _ hO.out B.under rfl (B.infoN _) ?_) | (refine wpList_store_row rfl 91 (.tmp 4) (.tmp 28) rfl (w.heap.size + 1 + 1) (B.cells (S % 2 ^ i)) rfl rfl 91 _ hZ.out (B.infoN _) (by rw [B.size, B.size]) (B.plain _) ?_))
      refine bodyPost_ret (results_cell_row (by rfl) _ _ (w.heap.size + 1 + 1) 91 (B.cells (S % 2 ^ i)) (0, 0) _ (by rfl) (hZ.out.row _) B.under rfl (B.infoN _)) rfl ?_
      exact ⟨by rw [E.out], B.below_row hW.out (by omega) _⟩
    | succ k1 =>
      have hi : i < 260 := by have := hik.out; omega
      have q1 : decide ((i : Int) < 260) = true := decide_eq_true (by omega)
      have xA := B.ix w.heap.size i hi
      have xB := B.ix (w.heap.size + 1) i hi
      have xO := B.ix (w.heap.size + 1 + 1 + 1) i hi
      have cA := hA.out.cell hi
      have cB := hB.out.cell hi
      obtain ⟨r1, r2⟩ := lombardref02_plus.round hc.out HS.out
      have R1 := Aside0.mk r1
      have R2 := Aside0.mk r2
      clear r1 r2
      go_upto_region 7 with (fail)
      repeat (go_quiet (fail); go_upto_region 7 with (fail))
      have cO := (hO.out).cell hi
      have fO := blk_frozen hO.out i
      go_upto_region 5 with (fail)
      go_wp2
      go_roundg k1
      case measure => omega
      case rel =>
        refine ⟨Go.Proofs.Ytchpeobenlnemaa.BigMath.carry a b (i + 1), i + 1, by rw [R2.out], by first | rfl | (rw [B.w1 (by omega) (by omega)]; rfl), ⟨by have := hik.out; omega⟩, ⟨rfl⟩, ⟨(hA.out.drew _).set _ _ (by show w.heap.size ≠ w.heap.size + 1 + 1 + 1; omega)⟩, ⟨(hB.out.drew _).set _ _ (by show w.heap.size + 1 ≠ w.heap.size + 1 + 1 + 1; omega)⟩, ⟨(hZ.out.drew _).set _ _ (by show w.heap.size + 1 + 1 ≠ w.heap.size + 1 + 1 + 1; omega)⟩, ⟨(hO.out.drew _).put hi R1.out⟩, ⟨(pw_below_drewN hW.out _).setCell (by show w.heap.size ≤ w.heap.size + 1 + 1 + 1; omega) _⟩⟩


end Go.Proofs.Ytchpeobenlnemaa.S
end

section
namespace Go.Proofs.Ytchpeobenlnemaa.S
open Go.RowKit Go.Proofs.YtchpeobenlnemaaW.PrintWords Go.Proofs.YtchpeobenlnemaaW.PrintLast Go.Proofs.YtchpeobenlnemaaW.PrintMore
attribute [local go_sem] max2_int min2_int max_two min_two max_three min_three max_four min_four   -- for this text's walks alone
attribute [local go_sem] Go.Proofs.Ytchpeobenlnemaa.XWalk.cell2
set_option linter.unusedVariables false
set_option linter.unusedSimpArgs false

/-! ### lombardref02_times: function 60 -/
-- IMPORT BigMath
theorem B.HasB.lt {w : World} {g N : Nat} {less : Bool} (h : B.HasB w g less N) : g < w.heap.size := (Array.getElem?_eq_some_iff.1 h).1
/-- a row of bits put behind a sign -/
theorem B.storeVarB {W : World} {g N M : Nat} {less : Bool} (h : B.HasB W g less N) : (storeVar 91 ⟨g, 1, none⟩ (.agg (B.cells M))).run Try.prog W = .ok () (W.setRow g (B.big less M)) := by
  have st := run_storeCells_at Try.prog g 1 93 (B.cells M).toList 0 (B.big less N) W h (by rw [Array.length_toList, B.size, B.big_size]; omega) (fun v hv => (Array.all_eq_true_iff_forall_mem.1 (B.plain M)) v (by simpa using hv))
  have e : ((B.big less N).toList.take (1 + 0) ++ (B.cells M).toList ++ (B.big less N).toList.drop (1 + 0 + (B.cells M).toList.length)).toArray = B.big less M := by
    have q : ∀ K, (B.big less K).toList = .bool less :: (B.cells K).toList := fun K => by simp [B.big]
    rw [List.drop_eq_nil_of_le (by rw [Array.length_toList, Array.length_toList, B.size, B.big_size]; omega), q, List.append_nil]
    apply Array.ext'
    rw [q]
    rfl
  rw [e] at st
  have hi := B.info
  cases hq : Try.prog.info? 91 with
  | none => simp [hq] at hi
  | some i =>
    have hs : i.size = 260 := by simpa [hq] using hi
    simp [storeVar, sizeOf, typeInfo, hq, Value.cells, hs, B.size, st]
theorem B.wpStoreB {ops : Array Oper} {rest : List Oper} {o : Oper} {a : Act} {w : World} {Q : Exit → Act → World → Prop} (hgd : o.guard = none) (x y : Operand) (ho : o.op = .store 91 x y)
    (g N M : Nat) (less : Bool) (hx : a.eval x = .pointer (some ⟨g, 1, none⟩)) (hy : a.eval y = .agg (B.cells M)) (hg : B.HasB w g less N)
    (h : wpList Try.prog ops Q rest (a.put o.dst undef) (w.setRow g (B.big less M))) : wpList Try.prog ops Q (o :: rest) a w :=
  wpList_plain hgd fun _ hK => by
    unfold Oper.wp execOp
    simp only [ho, hx, hy, Instr.storeAt, Instr.sureAddr, Sem.run_bind, Sem.run_pure, Result.andThen_ok, B.storeVarB hg]
    exact hK _ _ h
theorem B.builtB (l : Bool) : (Try.prog.built 93 #[(0, Value.bool l)].toList).getD #[] = B.big l 0 := by
  have e : (Try.prog.built 93 #[(0, Value.bool l)].toList).getD #[] = Try.zeroCells93.setIfInBounds 0 (.bool l) := by cases l <;> kernel_rfl
  rw [e, B.zeroB, B.big_less]
theorem B.someB (l : Bool) : (Try.prog.built 93 #[(0, Value.bool l)].toList).isSome = true := by cases l <;> kernel_rfl
theorem B.wpBuildB {ops : Array Oper} {rest : List Oper} {o : Oper} {a : Act} {w : World} {Q : Exit → Act → World → Prop} (hgd : o.guard = none) (x : Operand) (ho : o.op = .build 93 #[(0, x)]) (l l2 : Bool) (hx : a.eval x = .bool l) (hl : l = l2)
    (h : wpList Try.prog ops Q rest (a.put o.dst (.agg (B.big l2 0))) w) : wpList Try.prog ops Q (o :: rest) a w := by
  subst hl
  have m : (#[((0 : Nat), x)].map fun (i, x) => (i, a.eval x)) = #[(0, Value.bool l)] := by simp [hx]
  refine wpList_build hgd 93 #[(0, x)] ho ?_ ?_
  · rw [m]
    exact B.someB l
  · rw [m, B.builtB]
    exact h
def B.ofHi (a : Int) : Int := if a < 0 then -1 else 0
def B.ofLo (a : Int) : Int := IntKind.u64.wrap a
theorem B.ofLo_eq (a : Int) : B.ofLo a = a % 18446744073709551616 := by
  unfold B.ofLo
  simp only [IntKind.wrap, IntKind.bits, IntKind.signed]
  simp
theorem B.of_f (a : Int) : lombardref02_Of.f a = some (B.ofHi a, B.ofLo a) := by
  unfold lombardref02_Of.f B.ofHi B.ofLo
  split <;> rfl
theorem B.of_less (a : Int) : B.less (B.ofHi a) = decide (a < 0) := by
  unfold B.less B.ofHi
  split <;> simp_all
theorem B.of_abs {a : Int} (h0 : -9223372036854775808 ≤ a) (h1 : a ≤ 9223372036854775807) : B.abs (B.ofHi a) (B.ofLo a) = a.natAbs := by
  have e : (2 : Nat) ^ 128 = 340282366920938463463374607431768211456 := by decide
  unfold B.abs B.two
  rw [B.ofLo_eq, e]
  unfold B.ofHi
  split <;> split <;> omega
theorem B.ofCalls (a : Int) (w : World) : Calls Try.prog 66 #[.int .i64 a] w fun e w' => e = .returned (.agg #[.int .i64 (B.ofHi a), .int .u64 (B.ofLo a)]) ∧ Below w.heap.size w w' :=
  lombardref02_Of.calls a _ _ w (B.of_f a)
theorem B.bigOf {a : Int} (h0 : -9223372036854775808 ≤ a) (h1 : a ≤ 9223372036854775807) (w : World) : Calls Try.prog 65 #[.agg #[.int .i64 (B.ofHi a), .int .u64 (B.ofLo a)]] w fun e w' => e = .returned (.agg (B.big (decide (a < 0)) a.natAbs)) ∧ Below w.heap.size w w' := by
  have hb : -1 ≤ B.ofHi a ∧ B.ofHi a ≤ 0 := by unfold B.ofHi; split <;> omega
  have lb : 0 ≤ B.ofLo a ∧ B.ofLo a < 18446744073709551616 := by rw [B.ofLo_eq]; omega
  have := lombardref02_big.calls (B.ofHi a) (B.ofLo a) (by omega) (by omega) lb.1 lb.2 w
  rw [B.of_less, B.of_abs h0 h1] at this
  exact this
theorem lombardref02_times.moved (X i k : Nat) : X * 2 ^ i % 2 ^ (k + i) = X % 2 ^ k * 2 ^ i := by
  rw [Nat.pow_add, Nat.mul_mod_mul_right]
theorem lombardref02_times.bit (X i k : Nat) : B.bit X k = B.bit (X * 2 ^ i) (k + i) := by
  unfold B.bit
  rw [Go.Proofs.Ytchpeobenlnemaa.BigMath.bitN_mul, if_pos (by omega), Nat.add_sub_cancel]
/-- a bit more of the factor -/
theorem lombardref02_times.next (Y i : Nat) : Y % 2 ^ (i + 1) = Y % 2 ^ i + Go.Proofs.Ytchpeobenlnemaa.BigMath.bitN Y i * 2 ^ i := by
  unfold Go.Proofs.Ytchpeobenlnemaa.BigMath.bitN
  have := Nat.mod_mul (x := Y) (a := 2 ^ i) (b := 2)
  rw [Nat.pow_succ, this, Nat.mul_comm (2 ^ i)]
set_option maxRecDepth 100000 in
set_option maxHeartbeats 8000000 in
theorem lombardref02_times.calls (a b : Int) (a0 : -9223372036854775808 ≤ a) (a1 : a ≤ 9223372036854775807) (b0 : -9223372036854775808 ≤ b) (b1 : b ≤ 9223372036854775807) (w : World) : Calls Try.prog 60 #[.int .i64 a, .int .i64 b] w fun e w' => e = .returned (.agg (B.big (decide (a < 0) != decide (b < 0)) (a.natAbs * b.natAbs))) ∧ Below w.heap.size w w' := by
  obtain ⟨ah, al, OA, BA⟩ : ∃ h l, (∀ W, Calls Try.prog 66 #[.int .i64 a] W fun e w' => e = .returned (.agg #[.int .i64 h, .int .u64 l]) ∧ Below W.heap.size W w') ∧ ∀ W, Calls Try.prog 65 #[.agg #[.int .i64 h, .int .u64 l]] W fun e w' => e = .returned (.agg (B.big (decide (a < 0)) a.natAbs)) ∧ Below W.heap.size W w' := ⟨_, _, fun W => B.ofCalls a W, fun W => B.bigOf a0 a1 W⟩
  obtain ⟨bh, bl, OB, BB⟩ : ∃ h l, (∀ W, Calls Try.prog 66 #[.int .i64 b] W fun e w' => e = .returned (.agg #[.int .i64 h, .int .u64 l]) ∧ Below W.heap.size W w') ∧ ∀ W, Calls Try.prog 65 #[.agg #[.int .i64 h, .int .u64 l]] W fun e w' => e = .returned (.agg (B.big (decide (b < 0)) b.natAbs)) ∧ Below W.heap.size W w' := ⟨_, _, fun W => B.ofCalls b W, fun W => B.bigOf b0 b1 W⟩
  have xl : a.natAbs ≤ 2 ^ 63 := by have e : (2 : Nat) ^ 63 = 9223372036854775808 := by decide
                                    rw [e]; omega
  have yl : b.natAbs ≤ 2 ^ 63 := by have e : (2 : Nat) ^ 63 = 9223372036854775808 := by decide
                                    rw [e]; omega
  clear a0 a1 b0 b1
  obtain ⟨X, hX⟩ : ∃ X, X = a.natAbs := ⟨_, rfl⟩
  obtain ⟨Y, hY⟩ : ∃ Y, Y = b.natAbs := ⟨_, rfl⟩
  obtain ⟨la, hla⟩ : ∃ l, l = decide (a < 0) := ⟨_, rfl⟩
  obtain ⟨lb, hlb⟩ : ∃ l, l = decide (b < 0) := ⟨_, rfl⟩
  rw [← hX] at BA xl
  rw [← hY] at BB yl
  rw [← hla] at BA
  rw [← hlb] at BB
  rw [← hX, ← hY, ← hla, ← hlb]
  clear hX hY hla hlb
  obtain ⟨L, hL⟩ : ∃ L, L = (la != lb) := ⟨_, rfl⟩
  rw [← hL]
  have HL := Aside0.mk hL
  have XL := Aside0.mk xl
  have YL := Aside0.mk yl
  clear hL xl yl
  go_enter Try.func60, Try.ntmps60
  go_upto_region 1 with (fail)
  have z4 := B.HasB.new0 w
  have W1 := below_alloc (Below.refl w.heap.size w) (.cells Try.zeroCells93 93)
  generalize w.alloc (.cells Try.zeroCells93 93) = w1 at *
  go_upto_region 2 with (first | (go_at_call 66; (with_reducible refine (OA _).mono ?_); rintro e w11 ⟨rfl, hb1⟩) | (go_at_call 65; (with_reducible refine (BA _).mono ?_); rintro e w12 ⟨rfl, hb2⟩) | (go_at_call 66; (with_reducible refine (OB _).mono ?_); rintro e w13 ⟨rfl, hb3⟩) | (go_at_call 65; (with_reducible refine (BB _).mono ?_); rintro e w14 ⟨rfl, hb4⟩; have y5 := (B.HasB.new0 w14).alloc (.cells Try.zeroCells93 93); have y6 := (B.HasB.new0 (w14.alloc (.cells Try.zeroCells93 93))).setR (k := w14.heap.size) (B.big la X) (by rw [World.size_alloc]; omega); rw [World.size_alloc] at y6) | ((with_reducible refine B.gateOp (.store 93 (.tmp 5) (.tmp 13)) rfl ?_); refine wpList_store_row rfl 93 (.tmp 5) (.tmp 13) rfl w14.heap.size (B.big la X) rfl rfl 93 _ y5 (B.infoB _ _) (by rw [B.big_size, B.big_size]) (B.plainB _ _) ?_) | ((with_reducible refine B.gateOp (.store 93 (.tmp 6) (.tmp 16)) rfl ?_); refine wpList_store_row rfl 93 (.tmp 6) (.tmp 16) rfl (w14.heap.size + 1) (B.big lb Y) rfl rfl 93 _ y6 (B.infoB _ _) (by rw [B.big_size, B.big_size]) (B.plainB _ _) ?_))
  have h0 := z4.lt
  have hz : w.heap.size < w14.heap.size := by have := hb1.size; have := hb2.size; have := hb3.size; have := hb4.size; omega
  have z5 := (((((((z4.below hb1).below hb2).below hb3).below hb4).alloc (.cells Try.zeroCells93 93)).alloc (.cells Try.zeroCells93 93)).setR (k := w14.heap.size) (B.big la X) (by omega)).setR (k := w14.heap.size + 1) (B.big lb Y) (by omega)
  have x5 := (B.HasB.row y5 la X).setR (k := w14.heap.size + 1) (B.big lb Y) (by omega)
  have x6 := B.HasB.row y6 lb Y
  have W2 := below_then W1 W1.size hb1
  have W3 := below_then W2 W2.size hb2
  have W4 := below_then W3 W3.size hb3
  have W5 := below_then W4 W4.size hb4
  have W6 := B.below_row (B.below_row (below_alloc (below_alloc W5 (.cells Try.zeroCells93 93)) (.cells Try.zeroCells93 93)) (k := w14.heap.size) (by omega) (B.big la X)) (k := w14.heap.size + 1) (by omega) (B.big lb Y)
  clear W1 W2 W3 W4 W5 y5 y6 hb1 hb2 hb3 hb4 z4 h0 OA OB BA BB
  generalize (((w14.alloc (.cells Try.zeroCells93 93)).alloc (.cells Try.zeroCells93 93)).setRow w14.heap.size (B.big la X)).setRow (w14.heap.size + 1) (B.big lb Y) = w5 at *
  generalize w14.heap.size = g at *
  have hg := x6.lt
  have c5 := x5.cell0
  have c6 := x6.cell0
  have y7 := B.HasB.new0 w5
  go_upto_region 3 with (first | ((with_reducible refine B.gateOp (.build 93 #[(0, .tmp 21)]) rfl ?_); refine B.wpBuildB rfl (.tmp 21) rfl _ L rfl (by rw [HL.out]; cases la <;> cases lb <;> rfl) ?_) | ((with_reducible refine B.gateOp (.store 93 (.tmp 7) (.tmp 22)) rfl ?_); refine wpList_store_row rfl 93 (.tmp 7) (.tmp 22) rfl w5.heap.size (B.big L 0) rfl rfl 93 _ y7 (B.infoB _ _) (by rw [B.big_size, B.big_size]) (B.plainB _ _) ?_))
  have z7 := (z5.alloc (.cells Try.zeroCells93 93)).setR (k := w5.heap.size) (B.big L 0) (by omega)
  have x7 := (x5.alloc (.cells Try.zeroCells93 93)).setR (k := w5.heap.size) (B.big L 0) (by omega)
  have q7 := (x6.alloc (.cells Try.zeroCells93 93)).setR (k := w5.heap.size) (B.big L 0) (by omega)
  have r7 := B.HasB.row y7 L 0
  have W7 := B.below_row (below_alloc W6 (.cells Try.zeroCells93 93)) (k := w5.heap.size) (by omega) (B.big L 0)
  clear z5 x5 x6 y7 W6 c5 c6
  generalize (w5.alloc (.cells Try.zeroCells93 93)).setRow w5.heap.size (B.big L 0) = w6 at *
  generalize w5.heap.size = h at *
  have Z7 := Aside0.mk z7
  have X7 := Aside0.mk x7
  have Q7 := Aside0.mk q7
  have R7 := Aside0.mk r7
  have V7 := Aside0.mk W7
  clear z7 x7 q7 r7 W7 HL
  go_wp2
  go_loopg [8] 64 (fun kq v8 w' => ∃ (i : Nat), v8 = .int .i64 i ∧ Aside0 (i + kq = 64) ∧ Aside0 (B.HasB w' w.heap.size false 0) ∧ Aside0 (B.HasB w' g la X) ∧ Aside0 (B.HasB w' (g + 1) lb Y) ∧ Aside0 (B.HasB w' h L (X * (Y % 2 ^ i))) ∧ Aside0 (Below w.heap.size w w'))
  case atStart => exact ⟨0, rfl, ⟨rfl⟩, Z7, X7, Q7, ⟨by rw [Nat.pow_zero, Nat.mod_one, Nat.mul_zero]; exact R7.out⟩, V7⟩
  case round =>
    clear Z7 X7 Q7 R7 V7
    obtain ⟨i, rfl, hik, hZ, hX, hY, hO, hW⟩ := hrel
    cases gk with
    | zero =>
      have q1 : decide ((i : Int) < 64) = false := decide_eq_false (by have := hik.out; omega)
      have hO' : B.HasB wr h L (X * Y) := by
        have := hO.out
        rw [show i = 64 by have := hik.out; omega, Nat.mod_eq_of_lt (Nat.lt_of_le_of_lt YL.out (Nat.pow_lt_pow_right (by omega) (by omega)))] at this
        exact this
      clear hik hX hY hO
      go_wp2_with (first | ((with_reducible refine B.gateOp (.load 93 (.tmp 7)) rfl ?_); refine wpList_load_row rfl 93 (.tmp 7) rfl h rfl 93 (B.big L (X * Y)) (0, 0) _ hO' Try.underlying93 rfl (B.infoB _ _) ?_) | ((with_reducible refine B.gateOp (.store 93 (.tmp 4) (.tmp 49)) rfl ?_); refine wpList_store_row rfl 93 (.tmp 4) (.tmp 49) rfl w.heap.size (B.big L (X * Y)) rfl rfl 93 _ hZ.out (B.infoB _ _) (by rw [B.big_size, B.big_size]) (B.plainB _ _) ?_))
      refine bodyPost_ret (results_cell_row (by rfl) _ _ w.heap.size 93 (B.big L (X * Y)) (0, 0) _ (by rfl) (hZ.out.row _ _) Try.underlying93 rfl (B.infoB _ _)) rfl ?_
      exact ⟨rfl, B.below_row hW.out (by omega) _⟩
    | succ k1 =>
      have i64 : i < 64 := by have := hik.out; omega
      have q1 : decide ((i : Int) < 64) = true := decide_eq_true (by omega)
      have xY := B.ixB (g + 1) i (by omega)
      have cY := hY.out.cell (i := i) (by omega)
      have nx := lombardref02_times.next Y i
      have b2 := Go.Proofs.Ytchpeobenlnemaa.BigMath.bitN_lt Y i
      have nw : wrap64 ((i : Int) + 1) = ((i + 1 : Nat) : Int) := by unfold wrap64; omega
      have NW := Aside0.mk nw
      clear nw
      rcases (show Go.Proofs.Ytchpeobenlnemaa.BigMath.bitN Y i = 0 ∨ Go.Proofs.Ytchpeobenlnemaa.BigMath.bitN Y i = 1 by omega) with c | c
      · have cv : B.bit Y i = 0 := by unfold B.bit; rw [c]; rfl
        rw [cv] at cY
        rw [c, Nat.zero_mul, Nat.add_zero] at nx
        have NX := Aside0.mk nx
        clear nx c b2 cv i64
        go_wp2
        go_roundg k1
        case measure => omega
        case rel => exact ⟨i + 1, by first | rfl | rw [← NW.out], ⟨by have := hik.out; omega⟩, hZ, hX, hY, ⟨by rw [NX.out]; exact hO.out⟩, hW⟩
      · have cv : B.bit Y i = 1 := by unfold B.bit; rw [c]; rfl
        rw [cv] at cY
        rw [c, Nat.one_mul] at nx
        have NX := Aside0.mk nx
        clear nx c b2 cv
        obtain ⟨S, hS⟩ : ∃ S, S = X * 2 ^ i := ⟨_, rfl⟩
        obtain ⟨T, hT⟩ : ∃ T, T = X * (Y % 2 ^ i) := ⟨_, rfl⟩
        rw [← hT] at hO
        have ml := hO.out.lt
        have pn : (T + S) % 2 ^ 260 = X * (Y % 2 ^ (i + 1)) := by
          have e : T + S = X * (Y % 2 ^ (i + 1)) := by rw [hT, hS, NX.out, Nat.mul_add]
          rw [e]
          refine Nat.mod_eq_of_lt (Nat.lt_of_le_of_lt (Nat.mul_le_mul XL.out (Nat.le_of_lt (Nat.mod_lt Y (show 0 < 2 ^ (i + 1) from Nat.pow_pos (by decide))))) ?_)
          rw [← Nat.pow_add]
          exact @Nat.pow_lt_pow_right 2 (63 + (i + 1)) 260 (by decide) (by omega)
        have PN := Aside0.mk pn
        have sl : S % 2 ^ (64 + i) = S := by
          refine Nat.mod_eq_of_lt ?_
          rw [hS, Nat.pow_add]
          exact Nat.mul_lt_mul_of_pos_right (Nat.lt_of_le_of_lt XL.out (Nat.pow_lt_pow_right (by omega) (by omega))) (Nat.pow_pos (by decide))
        have SL := Aside0.mk sl
        have s0 : S % 2 ^ (0 + i) = 0 := by rw [hS, lombardref02_times.moved, Nat.pow_zero, Nat.mod_one, Nat.zero_mul]
        have S0 := Aside0.mk s0
        have bt : ∀ k, B.bit X k = B.bit S (k + i) := fun k => by rw [hS]; exact lombardref02_times.bit X i k
        have BT := Aside0.mk bt
        have PL := fun W => lombardref02_plus.calls T S W
        rw [PN.out] at PL
        obtain ⟨U, hU⟩ : ∃ U, U = X * (Y % 2 ^ (i + 1)) := ⟨_, rfl⟩
        rw [← hU] at PL
        have HU := Aside0.mk hU
        clear pn sl s0 bt hU hT hS PN NX
        have Zr := hZ.out.alloc (.cells Try.zeroCells91 91)
        have Xr := hX.out.alloc (.cells Try.zeroCells91 91)
        have Yr := hY.out.alloc (.cells Try.zeroCells91 91)
        have Or := hO.out.alloc (.cells Try.zeroCells91 91)
        have Mr := B.Has.new0 wr
        have Wr := below_alloc hW.out (.cells Try.zeroCells91 91)
        clear hZ hX hY hO hW
        go_upto_region 8 with (fail)
        clear cY xY
        generalize wr.alloc (.cells Try.zeroCells91 91) = wm at *
        generalize wr.heap.size = m at *
        have KZ := Aside0.mk Zr
        have KX := Aside0.mk Xr
        have KY := Aside0.mk Yr
        have KO := Aside0.mk Or
        have KM := Aside0.mk Mr
        have KW := Aside0.mk Wr
        clear Zr Xr Yr Or Mr Wr
        go_wp2
        go_loopg [10] 64 (fun kq v10 w' => ∃ (k : Nat), v10 = .int .i64 k ∧ Aside0 (k + kq = 64) ∧ Aside0 (B.HasB w' w.heap.size false 0) ∧ Aside0 (B.HasB w' g la X) ∧ Aside0 (B.HasB w' (g + 1) lb Y) ∧ Aside0 (B.HasB w' h L T) ∧ Aside0 (B.Has w' m (S % 2 ^ (k + i))) ∧ Aside0 (Below w.heap.size w w'))
        case atStart => exact ⟨0, rfl, ⟨rfl⟩, KZ, KX, KY, KO, ⟨by rw [S0.out]; exact KM.out⟩, KW⟩
        case round =>
          clear KZ KX KY KO KM KW
          obtain ⟨k, rfl, hkq, hZ, hX, hY, hO, hM, hW⟩ := hrel
          cases gk with
          | zero =>
            have q2 : decide ((k : Int) < 64) = false := decide_eq_false (by have := hkq.out; omega)
            have hM' : B.Has wr m S := by
              have := hM.out
              rw [show k = 64 by have := hkq.out; omega, SL.out] at this
              exact this
            clear hkq hM
            go_upto_region 5 with (first | ((with_reducible refine B.gateOp (.load 91 (.tmp 44)) rfl ?_); refine B.wpLoadB rfl (.tmp 44) rfl h T L rfl hO.out ?_) | ((with_reducible refine B.gateOp (.load 91 (.tmp 9)) rfl ?_); refine wpList_load_row rfl 91 (.tmp 9) rfl m rfl 91 (B.cells S) (0, 0) _ hM' B.under rfl (B.infoN _) ?_) | (go_at_call 69; (with_reducible refine (PL _).mono ?_); rintro e w9 ⟨rfl, hb9⟩; have o9 := hO.out.below hb9) | ((with_reducible refine B.gateOp (.store 91 (.tmp 48) (.tmp 47)) rfl ?_); refine B.wpStoreB rfl (.tmp 48) (.tmp 47) rfl h T U L rfl rfl o9 ?_))
            have z9 := (hZ.out.below hb9).setR (k := h) (B.big L U) (by omega)
            have x9 := (hX.out.below hb9).setR (k := h) (B.big L U) (by omega)
            have y9 := (hY.out.below hb9).setR (k := h) (B.big L U) (by omega)
            have r9 := B.HasB.row o9 L U
            have W9 := B.below_row (below_then hW.out hW.out.size hb9) (k := h) (by omega) (B.big L U)
            generalize w9.setRow h (B.big L U) = wz at *
            have E1 := Aside0.mk z9
            have E2 := Aside0.mk x9
            have E3 := Aside0.mk y9
            have E4 := Aside0.mk r9
            have E5 := Aside0.mk W9
            clear z9 x9 y9 r9 W9 o9 hb9 hZ hX hY hO hM' hW
            go_wp2
            go_roundg k1
            case measure => omega
            case rel => exact ⟨i + 1, by first | rfl | rw [← NW.out], ⟨by have := hik.out; omega⟩, E1, E2, E3, ⟨by rw [← HU.out]; exact E4.out⟩, E5⟩
          | succ k2 =>
            have k64 : k < 64 := by have := hkq.out; omega
            have q2 : decide ((k : Int) < 64) = true := decide_eq_true (by omega)
            obtain ⟨j, hj⟩ : ∃ j, j = k + i := ⟨_, rfl⟩
            have jl : j < 260 := by omega
            have XK : wrap64 ((k : Int) + (i : Int)) = (j : Int) := by unfold wrap64; omega
            have xX := B.ixB g k (by omega)
            have cX := hX.out.cell (i := k) (by omega)
            have xM := B.ix m j jl
            have hM' : B.Has wr m (S % 2 ^ j) := by rw [hj]; exact hM.out
            have cM := hM'.cell jl
            have fM := blk_frozen hM' j
            have nk : wrap64 ((k : Int) + 1) = ((k + 1 : Nat) : Int) := by unfold wrap64; omega
            have NK := Aside0.mk nk
            have NM := Aside0.mk (hM'.put jl (show B.bit X k = B.bit S j by rw [hj]; exact BT.out k))
            have e : S % 2 ^ (j + 1) = S % 2 ^ (k + 1 + i) := by rw [hj, show k + i + 1 = k + 1 + i by omega]
            have NE := Aside0.mk e
            have HJ := Aside0.mk hj
            clear hM nk e hj k64 i64
            go_upto_region 10 with (fail)
            clear cM fM xM xX cX XK
            go_wp2
            go_roundg k2
            case measure => omega
            case rel => exact ⟨k + 1, by first | rfl | rw [← NK.out], ⟨by have := hkq.out; omega⟩, ⟨hZ.out.set _ _ (by show w.heap.size ≠ m; omega)⟩, ⟨hX.out.set _ _ (by show g ≠ m; omega)⟩, ⟨hY.out.set _ _ (by show g + 1 ≠ m; omega)⟩, ⟨hO.out.set _ _ (by show h ≠ m; omega)⟩, ⟨by rw [← NE.out]; exact NM.out⟩, ⟨hW.out.setCell (by show w.heap.size ≤ m; omega) _⟩⟩


end Go.Proofs.Ytchpeobenlnemaa.S
end

section
namespace Go.Proofs.Ytchpeobenlnemaa.S
open Go.RowKit Go.Proofs.YtchpeobenlnemaaW.PrintWords Go.Proofs.YtchpeobenlnemaaW.PrintLast Go.Proofs.YtchpeobenlnemaaW.PrintMore
attribute [local go_sem] max2_int min2_int max_two min_two max_three min_three max_four min_four   -- for this text's walks alone
attribute [local go_sem] Go.Proofs.Ytchpeobenlnemaa.XWalk.cell2
set_option linter.unusedVariables false
set_option linter.unusedSimpArgs false

/-! ### lombardref02_div: function 59 -/
-- IMPORT BigMath
theorem B.Has.lt {w : World} {g N : Nat} (h : B.Has w g N) : g < w.heap.size := (Array.getElem?_eq_some_iff.1 h).1
theorem B.built1 : (Try.prog.built 91 #[(0, Value.int IntKind.u8 1)].toList).getD #[] = B.cells 1 := by
  have e : (Try.prog.built 91 #[(0, Value.int IntKind.u8 1)].toList).getD #[] = (Array.replicate 260 (.int .u8 0)).setIfInBounds 0 (.int .u8 1) := by kernel_rfl
  have s := B.put 1 0 1 (by omega) (by unfold B.bit Go.Proofs.Ytchpeobenlnemaa.BigMath.bitN; decide)
  rw [show (1 : Nat) % 2 ^ 0 = 0 by decide, show (1 : Nat) % 2 ^ (0 + 1) = 1 by decide] at s
  rw [e, B.rep, s]
theorem B.some1 : (Try.prog.built 91 #[(0, Value.int IntKind.u8 1)].toList).isSome = true := by kernel_rfl
theorem B.wpBuild1 {ops : Array Oper} {rest : List Oper} {o : Oper} {a : Act} {w : World} {Q : Exit → Act → World → Prop} (hgd : o.guard = none) (ho : o.op = .build 91 #[(0, .const (.int .u8 1))])
    (h : wpList Try.prog ops Q rest (a.put o.dst (.agg (B.cells 1))) w) : wpList Try.prog ops Q (o :: rest) a w := by
  have m : (#[((0 : Nat), Operand.const (Value.int IntKind.u8 1))].map fun (i, x) => (i, a.eval x)) = #[(0, Value.int IntKind.u8 1)] := by simp [Act.eval]
  refine wpList_build hgd 91 #[(0, .const (.int .u8 1))] ho ?_ ?_
  · rw [m]
    exact B.some1
  · rw [m, B.built1]
    exact h
theorem B.built0 : (Try.prog.built 91 (#[] : Array (Nat × Value)).toList).getD #[] = B.cells 0 := by
  have e : (Try.prog.built 91 (#[] : Array (Nat × Value)).toList).getD #[] = Array.replicate 260 (.int .u8 0) := by kernel_rfl
  rw [e, B.rep]
theorem B.some0 : (Try.prog.built 91 (#[] : Array (Nat × Value)).toList).isSome = true := by kernel_rfl
theorem B.wpBuild0 {ops : Array Oper} {rest : List Oper} {o : Oper} {a : Act} {w : World} {Q : Exit → Act → World → Prop} (hw : Region.wanted o (yielded ops a.tmps) = true) (ho : o.op = .build 91 #[])
    (h : wpList Try.prog ops Q rest (a.put o.dst (.agg (B.cells 0))) w) : wpList Try.prog ops Q (o :: rest) a w := by
  refine wpList_step fun K hK => ?_
  rw [if_pos hw]
  have m : ((#[] : Array (Nat × Operand)).map fun (i, x) => (i, a.eval x)) = #[] := by simp
  refine wp_build 91 #[] ho ?_ ?_
  · rw [m]
    exact B.some0
  · rw [m, B.built0]
    exact hK _ _ h
theorem B.wpLoadW {ops : Array Oper} {rest : List Oper} {o : Oper} {a : Act} {w : World} {Q : Exit → Act → World → Prop} (hw : Region.wanted o (yielded ops a.tmps) = true) (x : Operand) (ho : o.op = .load 91 x) (g N : Nat) (hx : a.eval x = .pointer (some ⟨g, 0, none⟩)) (hg : B.HasC w g (B.cells N))
    (h : wpList Try.prog ops Q rest (a.put o.dst (.agg (B.cells N))) w) : wpList Try.prog ops Q (o :: rest) a w := by
  refine wpList_step fun K hK => ?_
  rw [if_pos hw]
  unfold Oper.wp
  rw [B.load x ho hx hg]
  exact hK _ _ h
theorem B.loadB {o : Oper} {ρ : Operand → Value} {W : World} {g N : Nat} {less : Bool} (x : Operand) (ho : o.op = .load 91 x) (hx : ρ x = .pointer (some ⟨g, 1, none⟩)) (h : B.HasB W g less N) : (execOp ρ o).run Try.prog W = .ok (.value (.agg (B.cells N))) W := by
  unfold execOp
  simp only [ho, hx, Instr.loadAt, Instr.sureAddr, Sem.run_bind, Sem.run_pure, Result.andThen_ok, B.loadVarB h]
theorem B.opCall {ops : Array Oper} {i : Nat} {o : Oper} {K : Act → World → Prop} {Q : Exit → Act → World → Prop} {a : Act} {w : World} (hi : ops[i]? = some o) (hg : o.guard = none) (u v : Value) (f : FuncId) (fn : Func) (x y : Operand) (ts : Array TypeId) (hf : Try.prog.funcs[f]? = some fn) (hname : (fn.name == "runtime.NumGoroutine") = false) (hb : fn.body.isSome = true)
    (ho : o.op = .call { callee := .value (.func f), args := #[x, y], argTypes := ts }) (hx : a.eval x = u) (hy : a.eval y = v) (h : Calls Try.prog f #[u, v] w fun e w' => ∃ z, e = .returned z ∧ K (a.put o.dst z) w') : wpOp Try.prog ops Q i K a w := by
  have hw : Region.wanted o (yielded ops a.tmps) = true := by simp [Region.wanted, hg]
  have t := goes_ (P := Try.prog) (ops := ops) (Q := Q) hf hname hb #[u, v] hw rfl ho (by simp [hx, hy]) h
  rw [if_pos hw] at t
  unfold wpOp
  simp only [hi]
  rw [if_pos hw]
  exact Or.inl t
theorem B.fold (cs : List Value) : ∀ (k : Nat) (z : Array Value), 1 + k + cs.length = z.size → (cs.zipIdx k).foldl (fun (a : Array Value) (x : Value × Nat) => a.setIfInBounds (1 + x.2) x.1) z = (z.toList.take (1 + k) ++ cs).toArray := by
  induction cs with
  | nil =>
    intro k z h
    simp at h
    rw [h, List.append_nil, List.take_of_length_le (by rw [Array.length_toList]; omega)]
    rfl
  | cons c cs ih =>
    intro k z h
    rw [List.zipIdx_cons, List.foldl_cons, ih (k + 1) _ (by rw [Array.size_setIfInBounds]; simp at h; omega)]
    congr 1
    rw [Array.toList_setIfInBounds, show 1 + (k + 1) = 1 + k + 1 by omega, List.take_add_one, List.take_set_of_le (by omega), List.getElem?_set_self (by rw [Array.length_toList]; simp at h; omega)]
    simp
theorem B.fill2 (p : Nat → Option (Nat × Nat)) (h0 : p 0 = some (0, 1)) (h1 : p 1 = some (1, 260)) (l : Bool) (N : Nat) : Instr.fill p (B.big false 0) [(0, Value.bool l), (1, Value.agg (B.cells N))] = some (B.big l N) := by
  have g := B.fold (B.cells N).toList 0 (B.big l 0) (by rw [Array.length_toList, B.size, B.big_size])
  have z : (B.cells N).zipIdx.foldl (fun (a : Array Value) (x : Value × Nat) => a.setIfInBounds (1 + x.2) x.1) (B.big l 0) = B.big l N := by
    rw [← Array.foldl_toList, Array.toList_zipIdx, g]
    unfold B.big
    simp
  have z0 : (#[Value.bool l] : Array Value).zipIdx.foldl (fun (a : Array Value) (x : Value × Nat) => a.setIfInBounds (0 + x.2) x.1) (B.big false 0) = B.big l 0 := by
    rw [← Array.foldl_toList, show (#[Value.bool l] : Array Value).zipIdx.toList = [(Value.bool l, 0)] from rfl, List.foldl_cons, List.foldl_nil]
    exact B.big_less false l 0
  have s1 : (#[Value.bool l] : Array Value).size = 1 := rfl
  have s2 := B.big_size l 0
  have s3 := B.big_size false 0
  have s4 := B.size N
  simp only [Instr.fill, Value.cells, h0, h1]
  simp only [z0, s1, s2, s3, s4]
  simp only [z]
  simp
theorem B.cellsB (l : Bool) (N : Nat) : Try.prog.built 93 #[(0, Value.bool l), (1, Value.agg (B.cells N))].toList = some (B.big l N) := by
  have e : Try.prog.built 93 #[(0, Value.bool l), (1, Value.agg (B.cells N))].toList = Instr.fill ((#[(0, 1), (1, 260)] : Array (Nat × Nat))[·]?) Try.zeroCells93 [(0, Value.bool l), (1, Value.agg (B.cells N))] := by kernel_rfl
  rw [e, B.zeroB]
  exact B.fill2 _ rfl rfl l N
theorem B.wpBuildLQ {ops : Array Oper} {rest : List Oper} {o : Oper} {a : Act} {w : World} {Q : Exit → Act → World → Prop} (hgd : o.guard = none) (x y : Operand) (ho : o.op = .build 93 #[(0, x), (1, y)]) (l : Bool) (N : Nat) (hx : a.eval x = .bool l) (hy : a.eval y = .agg (B.cells N))
    (h : wpList Try.prog ops Q rest (a.put o.dst (.agg (B.big l N))) w) : wpList Try.prog ops Q (o :: rest) a w := by
  have m : (#[((0 : Nat), x), (1, y)].map fun (i, x) => (i, a.eval x)) = #[(0, Value.bool l), (1, Value.agg (B.cells N))] := by simp [hx, hy]
  refine wpList_build hgd 93 #[(0, x), (1, y)] ho ?_ ?_
  · rw [m, B.cellsB]
    rfl
  · rw [m, B.cellsB]
    exact h
theorem lombardref02_div.twice (r D n m : Nat) (h : r < D) (hD : D ≤ 2 ^ n) (hm : n + 1 ≤ m) : r + r < 2 ^ m := by
  have c := Nat.pow_le_pow_right (show 2 > 0 by decide) hm
  rw [Nat.pow_succ] at c
  omega
theorem lombardref02_div.below (r D n m : Nat) (h : r < D) (hD : D ≤ 2 ^ n) (hm : n ≤ m) : r < 2 ^ m := by
  have c := Nat.pow_le_pow_right (show 2 > 0 by decide) hm
  omega
theorem lombardref02_div.more (q n m : Nat) (h : q < 2 ^ n) (hm : n < m) : q + 1 < 2 ^ m := by
  have c := Nat.pow_lt_pow_right (show 1 < 2 by decide) hm
  omega
def lombardref02_div.up (way : Int) (L : Bool) (N D : Nat) : Bool := if way = 0 then (L && decide (0 < N % D)) else (decide (D < N % D + N % D) || (decide (N % D + N % D = D) && decide (N / D % 2 = 1)))
def lombardref02_div.Q (way : Int) (L : Bool) (N D : Nat) : Nat := if lombardref02_div.up way L N D = true then N / D + 1 else N / D
def lombardref02_div.r (way : Int) (L : Bool) (N D : Nat) : Int := if lombardref02_small.ok L (lombardref02_div.Q way L N D) = true then lombardref02_small.v L (lombardref02_div.Q way L N D) else 0
def lombardref02_div.e (way : Int) (L : Bool) (N D : Nat) : Int := if lombardref02_small.ok L (lombardref02_div.Q way L N D) = true then 0 else 3
set_option maxRecDepth 100000 in
set_option maxHeartbeats 8000000 in
theorem lombardref02_div.calls0 (less : Bool) (N : Nat) (hN : N < 2 ^ 256) (b : Int) (b0 : -9223372036854775808 ≤ b) (b1 : b ≤ 9223372036854775807) (bz : b ≠ 0) (w : World) : Calls Try.prog 59 #[.agg (B.big less N), .int .i64 b, .int .i64 0] w fun e w' => e = .returned (.tuple #[.int .i64 (lombardref02_div.r 0 (less != decide (b < 0)) N b.natAbs), .int .i64 (lombardref02_div.e 0 (less != decide (b < 0)) N b.natAbs)]) ∧ Below w.heap.size w w' := by
  obtain ⟨bh, bl, OB, BB⟩ : ∃ h l, (∀ W, Calls Try.prog 66 #[.int .i64 b] W fun e w' => e = .returned (.agg #[.int .i64 h, .int .u64 l]) ∧ Below W.heap.size W w') ∧ ∀ W, Calls Try.prog 65 #[.agg #[.int .i64 h, .int .u64 l]] W fun e w' => e = .returned (.agg (B.big (decide (b < 0)) b.natAbs)) ∧ Below W.heap.size W w' := ⟨_, _, fun W => B.ofCalls b W, fun W => B.bigOf b0 b1 W⟩
  have dl : b.natAbs ≤ 2 ^ 63 := by have e : (2 : Nat) ^ 63 = 9223372036854775808 := by decide
                                    rw [e]; omega
  have d0 : 0 < b.natAbs := by omega
  have qz : (b == 0) = false := by simp [bz]
  clear b0 b1 bz
  obtain ⟨D, hD⟩ : ∃ D, D = b.natAbs := ⟨_, rfl⟩
  obtain ⟨lb, hlb⟩ : ∃ l, l = decide (b < 0) := ⟨_, rfl⟩
  rw [← hD] at dl d0 BB
  rw [← hlb] at BB
  rw [← hD, ← hlb]
  clear hD hlb
  obtain ⟨L, hL⟩ : ∃ L, L = (less != lb) := ⟨_, rfl⟩
  rw [← hL]
  have HL := Aside0.mk hL
  have d256 : D < 2 ^ 256 := Nat.lt_of_le_of_lt dl (Nat.pow_lt_pow_right (by omega) (by omega))
  have n260 : N < 2 ^ 260 := Nat.lt_of_lt_of_le hN (@Nat.pow_le_pow_right 2 (by decide) 256 260 (by decide))
  have QU := fun W => lombardref02_quo.calls N D n260 d0 d256 W
  obtain ⟨q, hq⟩ : ∃ q, q = N / D := ⟨_, rfl⟩
  obtain ⟨r, hr⟩ : ∃ r, r = N % D := ⟨_, rfl⟩
  have rl : r < D := by rw [hr]; exact Nat.mod_lt N d0
  have ql : q < 2 ^ 256 := by rw [hq]; exact Nat.lt_of_le_of_lt (Nat.div_le_self N D) hN
  rw [← hq, ← hr] at QU
  have HQ := Aside0.mk hq
  have HR := Aside0.mk hr
  have DL := Aside0.mk dl
  have RL := Aside0.mk rl
  have QL := Aside0.mk ql
  have NL := Aside0.mk hN
  have D0 := Aside0.mk d0
  clear hL hN dl rl ql d0 d256 n260 hq hr
  go_enter Try.func59, Try.ntmps59
  have y3 := B.HasB.new w less N
  go_upto_region 5 with (fail)
  have W1 := below_alloc (Below.refl w.heap.size w) (.cells (B.big less N) 93)
  generalize w.alloc (.cells (B.big less N) 93) = w1 at *
  go_upto_region 6 with (first | (go_at_call 66; (with_reducible refine (OB _).mono ?_); rintro e w11 ⟨rfl, hb1⟩) | (go_at_call 65; (with_reducible refine (BB _).mono ?_); rintro e w12 ⟨rfl, hb2⟩; have y8 := B.HasB.new0 w12) | ((with_reducible refine B.gateOp (.store 93 (.tmp 8) (.tmp 27)) rfl ?_); refine wpList_store_row rfl 93 (.tmp 8) (.tmp 27) rfl w12.heap.size (B.big lb D) rfl rfl 93 _ y8 (B.infoB _ _) (by rw [B.big_size, B.big_size]) (B.plainB _ _) ?_))
  have h3 := y3.lt
  have hz : w.heap.size < w12.heap.size := by have := hb1.size; have := hb2.size; omega
  have x3 := (((y3.below hb1).below hb2).alloc (.cells Try.zeroCells93 93)).setR (k := w12.heap.size) (B.big lb D) (by omega)
  have x8 := B.HasB.row y8 lb D
  have W2 := below_then W1 W1.size hb1
  have W3 := below_then W2 W2.size hb2
  have W4 := B.below_row (below_alloc W3 (.cells Try.zeroCells93 93)) (k := w12.heap.size) (by omega) (B.big lb D)
  clear W1 W2 W3 y3 y8 hb1 hb2 h3 OB BB
  generalize (w12.alloc (.cells Try.zeroCells93 93)).setRow w12.heap.size (B.big lb D) = w2 at *
  generalize w12.heap.size = d at *
  have hd := x8.lt
  go_upto_region 7 with (first | ((with_reducible refine B.gateOp (.load 91 (.tmp 29)) rfl ?_); refine B.wpLoadB rfl (.tmp 29) rfl w.heap.size N less rfl x3 ?_) | ((with_reducible refine B.gateOp (.load 91 (.tmp 31)) rfl ?_); refine B.wpLoadB rfl (.tmp 31) rfl d D lb rfl x8 ?_) | (go_at_call 67; (with_reducible refine (QU _).mono ?_); rintro e w13 ⟨rfl, hb3⟩; have y9 := (B.Has.new0 w13).alloc (.cells Try.zeroCells91 91); have y10 := (B.Has.new0 (w13.alloc (.cells Try.zeroCells91 91))).setR (k := w13.heap.size) (B.cells q) (by rw [World.size_alloc]; omega); rw [World.size_alloc] at y10) | ((with_reducible refine B.gateOp (.store 91 (.tmp 9) (.tmp 34)) rfl ?_); refine wpList_store_row rfl 91 (.tmp 9) (.tmp 34) rfl w13.heap.size (B.cells q) rfl rfl 91 _ y9 (B.infoN _) (by rw [B.size, B.size]) (B.plain _) ?_) | ((with_reducible refine B.gateOp (.store 91 (.tmp 10) (.tmp 35)) rfl ?_); refine wpList_store_row rfl 91 (.tmp 10) (.tmp 35) rfl (w13.heap.size + 1) (B.cells r) rfl rfl 91 _ y10 (B.infoN _) (by rw [B.size, B.size]) (B.plain _) ?_))
  have hg : d < w13.heap.size := by have := hb3.size; omega
  have a3 := ((((x3.below hb3).alloc (.cells Try.zeroCells91 91)).alloc (.cells Try.zeroCells91 91)).setR (k := w13.heap.size) (B.cells q) (by omega)).setR (k := w13.heap.size + 1) (B.cells r) (by omega)
  have a8 := ((((x8.below hb3).alloc (.cells Try.zeroCells91 91)).alloc (.cells Try.zeroCells91 91)).setR (k := w13.heap.size) (B.cells q) (by omega)).setR (k := w13.heap.size + 1) (B.cells r) (by omega)
  have a9 := (B.Has.row y9 q).setR (k := w13.heap.size + 1) (B.cells r) (by omega)
  have a10 := B.Has.row y10 r
  have W5 := below_then W4 W4.size hb3
  have W6 := B.below_row (B.below_row (below_alloc (below_alloc W5 (.cells Try.zeroCells91 91)) (.cells Try.zeroCells91 91)) (k := w13.heap.size) (by omega) (B.cells q)) (k := w13.heap.size + 1) (by omega) (B.cells r)
  clear W4 W5 x3 x8 y9 y10 hb3 hd QU
  generalize (((w13.alloc (.cells Try.zeroCells91 91)).alloc (.cells Try.zeroCells91 91)).setRow w13.heap.size (B.cells q)).setRow (w13.heap.size + 1) (B.cells r) = w3 at *
  generalize w13.heap.size = g at *
  have h10 := a10.lt
  have c3 := a3.cell0
  have c8 := a8.cell0
  go_upto_region 8 with (fail)
  have ll : (if less = lb then false else true) = L := by rw [HL.out]; cases less <;> cases lb <;> rfl
  have y12 := B.Has.new0 w3
  go_upto_region 10 with (first | ((with_reducible refine B.gateOp (.build 91 #[(0, .const (.int .u8 1))]) rfl ?_); refine B.wpBuild1 rfl rfl ?_) | ((with_reducible refine B.gateOp (.store 91 (.tmp 12) (.tmp 41)) rfl ?_); refine wpList_store_row rfl 91 (.tmp 12) (.tmp 41) rfl w3.heap.size (B.cells 1) rfl rfl 91 _ y12 (B.infoN _) (by rw [B.size, B.size]) (B.plain _) ?_))
  have e8 := (a8.alloc (.cells Try.zeroCells91 91)).setR (k := w3.heap.size) (B.cells 1) (by omega)
  have e9 := (a9.alloc (.cells Try.zeroCells91 91)).setR (k := w3.heap.size) (B.cells 1) (by omega)
  have e10 := (a10.alloc (.cells Try.zeroCells91 91)).setR (k := w3.heap.size) (B.cells 1) (by omega)
  have e12 := B.Has.row y12 1
  have W7 := B.below_row (below_alloc W6 (.cells Try.zeroCells91 91)) (k := w3.heap.size) (by omega) (B.cells 1)
  clear a3 a8 a9 a10 W6 y12 c3 c8
  generalize (w3.alloc (.cells Try.zeroCells91 91)).setRow w3.heap.size (B.cells 1) = w4 at *
  generalize w3.heap.size = o at *
  have ll : (!(less == lb)) = L := HL.out.symm
  rw [ll]
  clear ll h10
  have PL := fun W => lombardref02_plus.calls q 1 W
  rw [Nat.mod_eq_of_lt (lombardref02_div.more q 256 260 QL.out (by decide))] at PL
  have s1 : q + 1 < 2 ^ 260 := lombardref02_div.more q 256 260 QL.out (by decide)
  have s0 : q < 2 ^ 260 := Nat.lt_of_succ_lt s1
  have SM := fun M (h : M = q ∨ M = q + 1) W => lombardref02_small.calls L M (by rcases h with h | h <;> rw [h] <;> assumption) W
  clear s0 s1
  cases L with
  | false =>
    go_upto_region 14 with (fail)
    have uv : lombardref02_div.up 0 false N D = false := by unfold lombardref02_div.up; rw [if_pos rfl]; rfl
    have qv : lombardref02_div.Q 0 false N D = q := by unfold lombardref02_div.Q; rw [uv]; rw [if_neg (by simp), HQ.out]
    obtain ⟨M, hM⟩ : ∃ M, M = q := ⟨_, rfl⟩
    have SX := fun W => SM M (by rw [hM]; omega) W
    obtain ⟨v, hv⟩ : ∃ v, v = lombardref02_small.v false M := ⟨_, rfl⟩
    obtain ⟨k, hk⟩ : ∃ k, k = lombardref02_small.ok false M := ⟨_, rfl⟩
    have RES : Aside0 (lombardref02_div.r 0 false N D = (if k = true then v else 0) ∧ lombardref02_div.e 0 false N D = if k = true then 0 else 3) := ⟨by
      unfold lombardref02_div.r lombardref02_div.e
      rw [qv, ← hM, ← hv, ← hk]
      exact ⟨rfl, rfl⟩⟩
    rw [← hv, ← hk] at SX
    clear SM uv qv hv hk
    rw [← hM] at e9
    clear hM
    go_upto_region 16 with (fail)
    have m9 := e9
    have M7 := W7
    clear e9 e12 W7 PL
    go_upto_region 17 with (first | ((with_reducible refine B.gateOp (.load 91 (.tmp 9)) rfl ?_); refine wpList_load_row rfl 91 (.tmp 9) rfl g rfl 91 (B.cells M) (0, 0) _ m9 B.under rfl (B.infoN _) ?_) | ((with_reducible refine B.gateOp (.build 93 #[(0, .tmp 73), (1, .tmp 74)]) rfl ?_); refine B.wpBuildLQ rfl (.tmp 73) (.tmp 74) rfl false M rfl rfl ?_) | (go_at_call 70; (with_reducible refine (SX _).mono ?_); rintro e w9 ⟨rfl, hb9⟩))
    have B9 := below_then M7 M7.size hb9
    clear m9 M7 hb9 SX
    cases k with
    | true =>
      go_wp2
      go_ret2
      exact ⟨by rw [RES.out.1, RES.out.2]; rfl, B9⟩
    | false =>
      go_wp2
      go_ret2
      exact ⟨by rw [RES.out.1, RES.out.2]; rfl, B9⟩
  | true =>
    have SZ := fun W => lombardref02_size.calls r 0 (lombardref02_div.below r D 63 260 RL.out DL.out (by decide)) (@Nat.pow_pos 2 260 (by decide)) W
    by_cases c : 0 < r
    · have o1 : decide (lombardref02_size.ord r 0 > 0) = true := decide_eq_true (by unfold lombardref02_size.ord; rw [if_neg (by omega), if_pos c]; decide)
      obtain ⟨oz, hoz⟩ : ∃ z, z = lombardref02_size.ord r 0 := ⟨_, rfl⟩
      rw [← hoz] at o1
      have o2 : decide (0 < oz) = _ := o1
      have SZ2 := SZ
      rw [← hoz] at SZ2
      have CC := Aside0.mk c
      clear SZ hoz c
      go_upto_region 14 with (first | ((with_reducible refine B.gateOp (.load 91 (.tmp 10)) rfl ?_); refine B.wpLoadW (by first | rfl | (go_simp; done) | kernel_rfl) (.tmp 10) rfl (g + 1) r rfl e10 ?_) | ((with_reducible refine B.gateOp (.build 91 #[]) rfl ?_); refine B.wpBuild0 (by first | rfl | (go_simp; done) | kernel_rfl) rfl ?_) | (go_at_call 68; (with_reducible refine (SZ2 _).mono ?_); rintro e w6 ⟨rfl, hb6⟩))
      replace e9 := e9.below hb6
      replace e12 := e12.below hb6
      replace W7 := below_then W7 W7.size hb6
      have uv : lombardref02_div.up 0 true N D = true := by unfold lombardref02_div.up; rw [if_pos rfl, ← HR.out, decide_eq_true CC.out]; rfl
      have qv : lombardref02_div.Q 0 true N D = (q + 1) := by unfold lombardref02_div.Q; rw [uv]; rw [if_pos rfl, HQ.out]
      obtain ⟨M, hM⟩ : ∃ M, M = (q + 1) := ⟨_, rfl⟩
      have SX := fun W => SM M (by rw [hM]; omega) W
      obtain ⟨v, hv⟩ : ∃ v, v = lombardref02_small.v true M := ⟨_, rfl⟩
      obtain ⟨k, hk⟩ : ∃ k, k = lombardref02_small.ok true M := ⟨_, rfl⟩
      have RES : Aside0 (lombardref02_div.r 0 true N D = (if k = true then v else 0) ∧ lombardref02_div.e 0 true N D = if k = true then 0 else 3) := ⟨by
        unfold lombardref02_div.r lombardref02_div.e
        rw [qv, ← hM, ← hv, ← hk]
        exact ⟨rfl, rfl⟩⟩
      rw [← hv, ← hk] at SX
      clear SM uv qv hv hk
      rw [← hM] at PL
      clear hM
      go_upto_region 16 with (first | ((with_reducible refine B.gateOp (.load 91 (.tmp 9)) rfl ?_); refine wpList_load_row rfl 91 (.tmp 9) rfl g rfl 91 (B.cells q) (0, 0) _ e9 B.under rfl (B.infoN _) ?_) | ((with_reducible refine B.gateOp (.load 91 (.tmp 12)) rfl ?_); refine wpList_load_row rfl 91 (.tmp 12) rfl o rfl 91 (B.cells 1) (0, 0) _ e12 B.under rfl (B.infoN _) ?_) | (go_at_call 69; (with_reducible refine (PL _).mono ?_); rintro e w7 ⟨rfl, hb7⟩; have f9 := e9.below hb7) | ((with_reducible refine B.gateOp (.store 91 (.tmp 9) (.tmp 71)) rfl ?_); refine wpList_store_row rfl 91 (.tmp 9) (.tmp 71) rfl g (B.cells M) rfl rfl 91 _ f9 (B.infoN _) (by rw [B.size, B.size]) (B.plain _) ?_))
      have m9 := B.Has.row f9 M
      have M7 := B.below_row (below_then W7 W7.size hb7) (k := g) (by omega) (B.cells M)
      clear f9 hb7 e9 e12 W7 PL
      generalize w7.setRow g (B.cells M) = w8 at *
      go_upto_region 17 with (first | ((with_reducible refine B.gateOp (.load 91 (.tmp 9)) rfl ?_); refine wpList_load_row rfl 91 (.tmp 9) rfl g rfl 91 (B.cells M) (0, 0) _ m9 B.under rfl (B.infoN _) ?_) | ((with_reducible refine B.gateOp (.build 93 #[(0, .tmp 73), (1, .tmp 74)]) rfl ?_); refine B.wpBuildLQ rfl (.tmp 73) (.tmp 74) rfl true M rfl rfl ?_) | (go_at_call 70; (with_reducible refine (SX _).mono ?_); rintro e w9 ⟨rfl, hb9⟩))
      have B9 := below_then M7 M7.size hb9
      clear m9 M7 hb9 SX
      cases k with
      | true =>
        go_wp2
        go_ret2
        exact ⟨by rw [RES.out.1, RES.out.2]; rfl, B9⟩
      | false =>
        go_wp2
        go_ret2
        exact ⟨by rw [RES.out.1, RES.out.2]; rfl, B9⟩
    · have o1 : decide (lombardref02_size.ord r 0 > 0) = false := decide_eq_false (by unfold lombardref02_size.ord; rw [if_neg (by omega), if_neg c]; decide)
      obtain ⟨oz, hoz⟩ : ∃ z, z = lombardref02_size.ord r 0 := ⟨_, rfl⟩
      rw [← hoz] at o1
      have o2 : decide (0 < oz) = _ := o1
      have SZ2 := SZ
      rw [← hoz] at SZ2
      have CC := Aside0.mk c
      clear SZ hoz c
      go_upto_region 14 with (first | ((with_reducible refine B.gateOp (.load 91 (.tmp 10)) rfl ?_); refine B.wpLoadW (by first | rfl | (go_simp; done) | kernel_rfl) (.tmp 10) rfl (g + 1) r rfl e10 ?_) | ((with_reducible refine B.gateOp (.build 91 #[]) rfl ?_); refine B.wpBuild0 (by first | rfl | (go_simp; done) | kernel_rfl) rfl ?_) | (go_at_call 68; (with_reducible refine (SZ2 _).mono ?_); rintro e w6 ⟨rfl, hb6⟩))
      replace e9 := e9.below hb6
      replace e12 := e12.below hb6
      replace W7 := below_then W7 W7.size hb6
      have uv : lombardref02_div.up 0 true N D = false := by unfold lombardref02_div.up; rw [if_pos rfl, ← HR.out, decide_eq_false CC.out]; rfl
      have qv : lombardref02_div.Q 0 true N D = q := by unfold lombardref02_div.Q; rw [uv]; rw [if_neg (by simp), HQ.out]
      obtain ⟨M, hM⟩ : ∃ M, M = q := ⟨_, rfl⟩
      have SX := fun W => SM M (by rw [hM]; omega) W
      obtain ⟨v, hv⟩ : ∃ v, v = lombardref02_small.v true M := ⟨_, rfl⟩
      obtain ⟨k, hk⟩ : ∃ k, k = lombardref02_small.ok true M := ⟨_, rfl⟩
      have RES : Aside0 (lombardref02_div.r 0 true N D = (if k = true then v else 0) ∧ lombardref02_div.e 0 true N D = if k = true then 0 else 3) := ⟨by
        unfold lombardref02_div.r lombardref02_div.e
        rw [qv, ← hM, ← hv, ← hk]
        exact ⟨rfl, rfl⟩⟩
      rw [← hv, ← hk] at SX
      clear SM uv qv hv hk
      rw [← hM] at e9
      clear hM
      go_upto_region 16 with (fail)
      have m9 := e9
      have M7 := W7
      clear e9 e12 W7 PL
      go_upto_region 17 with (first | ((with_reducible refine B.gateOp (.load 91 (.tmp 9)) rfl ?_); refine wpList_load_row rfl 91 (.tmp 9) rfl g rfl 91 (B.cells M) (0, 0) _ m9 B.under rfl (B.infoN _) ?_) | ((with_reducible refine B.gateOp (.build 93 #[(0, .tmp 73), (1, .tmp 74)]) rfl ?_); refine B.wpBuildLQ rfl (.tmp 73) (.tmp 74) rfl true M rfl rfl ?_) | (go_at_call 70; (with_reducible refine (SX _).mono ?_); rintro e w9 ⟨rfl, hb9⟩))
      have B9 := below_then M7 M7.size hb9
      clear m9 M7 hb9 SX
      cases k with
      | true =>
        go_wp2
        go_ret2
        exact ⟨by rw [RES.out.1, RES.out.2]; rfl, B9⟩
      | false =>
        go_wp2
        go_ret2
        exact ⟨by rw [RES.out.1, RES.out.2]; rfl, B9⟩
set_option maxRecDepth 100000 in
set_option maxHeartbeats 8000000 in
theorem lombardref02_div.calls1 (less : Bool) (N : Nat) (hN : N < 2 ^ 256) (b : Int) (b0 : -9223372036854775808 ≤ b) (b1 : b ≤ 9223372036854775807) (bz : b ≠ 0) (w : World) : Calls Try.prog 59 #[.agg (B.big less N), .int .i64 b, .int .i64 1] w fun e w' => e = .returned (.tuple #[.int .i64 (lombardref02_div.r 1 (less != decide (b < 0)) N b.natAbs), .int .i64 (lombardref02_div.e 1 (less != decide (b < 0)) N b.natAbs)]) ∧ Below w.heap.size w w' := by
  obtain ⟨bh, bl, OB, BB⟩ : ∃ h l, (∀ W, Calls Try.prog 66 #[.int .i64 b] W fun e w' => e = .returned (.agg #[.int .i64 h, .int .u64 l]) ∧ Below W.heap.size W w') ∧ ∀ W, Calls Try.prog 65 #[.agg #[.int .i64 h, .int .u64 l]] W fun e w' => e = .returned (.agg (B.big (decide (b < 0)) b.natAbs)) ∧ Below W.heap.size W w' := ⟨_, _, fun W => B.ofCalls b W, fun W => B.bigOf b0 b1 W⟩
  have dl : b.natAbs ≤ 2 ^ 63 := by have e : (2 : Nat) ^ 63 = 9223372036854775808 := by decide
                                    rw [e]; omega
  have d0 : 0 < b.natAbs := by omega
  have qz : (b == 0) = false := by simp [bz]
  clear b0 b1 bz
  obtain ⟨D, hD⟩ : ∃ D, D = b.natAbs := ⟨_, rfl⟩
  obtain ⟨lb, hlb⟩ : ∃ l, l = decide (b < 0) := ⟨_, rfl⟩
  rw [← hD] at dl d0 BB
  rw [← hlb] at BB
  rw [← hD, ← hlb]
  clear hD hlb
  obtain ⟨L, hL⟩ : ∃ L, L = (less != lb) := ⟨_, rfl⟩
  rw [← hL]
  have HL := Aside0.mk hL
  have d256 : D < 2 ^ 256 := Nat.lt_of_le_of_lt dl (Nat.pow_lt_pow_right (by omega) (by omega))
  have n260 : N < 2 ^ 260 := Nat.lt_of_lt_of_le hN (@Nat.pow_le_pow_right 2 (by decide) 256 260 (by decide))
  have QU := fun W => lombardref02_quo.calls N D n260 d0 d256 W
  obtain ⟨q, hq⟩ : ∃ q, q = N / D := ⟨_, rfl⟩
  obtain ⟨r, hr⟩ : ∃ r, r = N % D := ⟨_, rfl⟩
  have rl : r < D := by rw [hr]; exact Nat.mod_lt N d0
  have ql : q < 2 ^ 256 := by rw [hq]; exact Nat.lt_of_le_of_lt (Nat.div_le_self N D) hN
  rw [← hq, ← hr] at QU
  have HQ := Aside0.mk hq
  have HR := Aside0.mk hr
  have DL := Aside0.mk dl
  have RL := Aside0.mk rl
  have QL := Aside0.mk ql
  have NL := Aside0.mk hN
  have D0 := Aside0.mk d0
  clear hL hN dl rl ql d0 d256 n260 hq hr
  go_enter Try.func59, Try.ntmps59
  have y3 := B.HasB.new w less N
  go_upto_region 5 with (fail)
  have W1 := below_alloc (Below.refl w.heap.size w) (.cells (B.big less N) 93)
  generalize w.alloc (.cells (B.big less N) 93) = w1 at *
  go_upto_region 6 with (first | (go_at_call 66; (with_reducible refine (OB _).mono ?_); rintro e w11 ⟨rfl, hb1⟩) | (go_at_call 65; (with_reducible refine (BB _).mono ?_); rintro e w12 ⟨rfl, hb2⟩; have y8 := B.HasB.new0 w12) | ((with_reducible refine B.gateOp (.store 93 (.tmp 8) (.tmp 27)) rfl ?_); refine wpList_store_row rfl 93 (.tmp 8) (.tmp 27) rfl w12.heap.size (B.big lb D) rfl rfl 93 _ y8 (B.infoB _ _) (by rw [B.big_size, B.big_size]) (B.plainB _ _) ?_))
  have h3 := y3.lt
  have hz : w.heap.size < w12.heap.size := by have := hb1.size; have := hb2.size; omega
  have x3 := (((y3.below hb1).below hb2).alloc (.cells Try.zeroCells93 93)).setR (k := w12.heap.size) (B.big lb D) (by omega)
  have x8 := B.HasB.row y8 lb D
  have W2 := below_then W1 W1.size hb1
  have W3 := below_then W2 W2.size hb2
  have W4 := B.below_row (below_alloc W3 (.cells Try.zeroCells93 93)) (k := w12.heap.size) (by omega) (B.big lb D)
  clear W1 W2 W3 y3 y8 hb1 hb2 h3 OB BB
  generalize (w12.alloc (.cells Try.zeroCells93 93)).setRow w12.heap.size (B.big lb D) = w2 at *
  generalize w12.heap.size = d at *
  have hd := x8.lt
  go_upto_region 7 with (first | ((with_reducible refine B.gateOp (.load 91 (.tmp 29)) rfl ?_); refine B.wpLoadB rfl (.tmp 29) rfl w.heap.size N less rfl x3 ?_) | ((with_reducible refine B.gateOp (.load 91 (.tmp 31)) rfl ?_); refine B.wpLoadB rfl (.tmp 31) rfl d D lb rfl x8 ?_) | (go_at_call 67; (with_reducible refine (QU _).mono ?_); rintro e w13 ⟨rfl, hb3⟩; have y9 := (B.Has.new0 w13).alloc (.cells Try.zeroCells91 91); have y10 := (B.Has.new0 (w13.alloc (.cells Try.zeroCells91 91))).setR (k := w13.heap.size) (B.cells q) (by rw [World.size_alloc]; omega); rw [World.size_alloc] at y10) | ((with_reducible refine B.gateOp (.store 91 (.tmp 9) (.tmp 34)) rfl ?_); refine wpList_store_row rfl 91 (.tmp 9) (.tmp 34) rfl w13.heap.size (B.cells q) rfl rfl 91 _ y9 (B.infoN _) (by rw [B.size, B.size]) (B.plain _) ?_) | ((with_reducible refine B.gateOp (.store 91 (.tmp 10) (.tmp 35)) rfl ?_); refine wpList_store_row rfl 91 (.tmp 10) (.tmp 35) rfl (w13.heap.size + 1) (B.cells r) rfl rfl 91 _ y10 (B.infoN _) (by rw [B.size, B.size]) (B.plain _) ?_))
  have hg : d < w13.heap.size := by have := hb3.size; omega
  have a3 := ((((x3.below hb3).alloc (.cells Try.zeroCells91 91)).alloc (.cells Try.zeroCells91 91)).setR (k := w13.heap.size) (B.cells q) (by omega)).setR (k := w13.heap.size + 1) (B.cells r) (by omega)
  have a8 := ((((x8.below hb3).alloc (.cells Try.zeroCells91 91)).alloc (.cells Try.zeroCells91 91)).setR (k := w13.heap.size) (B.cells q) (by omega)).setR (k := w13.heap.size + 1) (B.cells r) (by omega)
  have a9 := (B.Has.row y9 q).setR (k := w13.heap.size + 1) (B.cells r) (by omega)
  have a10 := B.Has.row y10 r
  have W5 := below_then W4 W4.size hb3
  have W6 := B.below_row (B.below_row (below_alloc (below_alloc W5 (.cells Try.zeroCells91 91)) (.cells Try.zeroCells91 91)) (k := w13.heap.size) (by omega) (B.cells q)) (k := w13.heap.size + 1) (by omega) (B.cells r)
  clear W4 W5 x3 x8 y9 y10 hb3 hd QU
  generalize (((w13.alloc (.cells Try.zeroCells91 91)).alloc (.cells Try.zeroCells91 91)).setRow w13.heap.size (B.cells q)).setRow (w13.heap.size + 1) (B.cells r) = w3 at *
  generalize w13.heap.size = g at *
  have h10 := a10.lt
  have c3 := a3.cell0
  have c8 := a8.cell0
  go_upto_region 8 with (fail)
  have ll : (if less = lb then false else true) = L := by rw [HL.out]; cases less <;> cases lb <;> rfl
  have y12 := B.Has.new0 w3
  go_upto_region 10 with (first | ((with_reducible refine B.gateOp (.build 91 #[(0, .const (.int .u8 1))]) rfl ?_); refine B.wpBuild1 rfl rfl ?_) | ((with_reducible refine B.gateOp (.store 91 (.tmp 12) (.tmp 41)) rfl ?_); refine wpList_store_row rfl 91 (.tmp 12) (.tmp 41) rfl w3.heap.size (B.cells 1) rfl rfl 91 _ y12 (B.infoN _) (by rw [B.size, B.size]) (B.plain _) ?_))
  have e8 := (a8.alloc (.cells Try.zeroCells91 91)).setR (k := w3.heap.size) (B.cells 1) (by omega)
  have e9 := (a9.alloc (.cells Try.zeroCells91 91)).setR (k := w3.heap.size) (B.cells 1) (by omega)
  have e10 := (a10.alloc (.cells Try.zeroCells91 91)).setR (k := w3.heap.size) (B.cells 1) (by omega)
  have e12 := B.Has.row y12 1
  have W7 := B.below_row (below_alloc W6 (.cells Try.zeroCells91 91)) (k := w3.heap.size) (by omega) (B.cells 1)
  clear a3 a8 a9 a10 W6 y12 c3 c8
  generalize (w3.alloc (.cells Try.zeroCells91 91)).setRow w3.heap.size (B.cells 1) = w4 at *
  generalize w3.heap.size = o at *
  have ll : (!(less == lb)) = L := HL.out.symm
  rw [ll]
  clear ll h10
  have PL := fun W => lombardref02_plus.calls q 1 W
  rw [Nat.mod_eq_of_lt (lombardref02_div.more q 256 260 QL.out (by decide))] at PL
  have s1 : q + 1 < 2 ^ 260 := lombardref02_div.more q 256 260 QL.out (by decide)
  have s0 : q < 2 ^ 260 := Nat.lt_of_succ_lt s1
  have SM := fun M (h : M = q ∨ M = q + 1) W => lombardref02_small.calls L M (by rcases h with h | h <;> rw [h] <;> assumption) W
  clear s0 s1
  have d260 : D < 2 ^ 260 := Nat.lt_of_le_of_lt DL.out (@Nat.pow_lt_pow_right 2 63 260 (by decide) (by decide))
  have r2 : r + r < 2 ^ 260 := lombardref02_div.twice r D 63 260 RL.out DL.out (by decide)
  have PR := fun W => lombardref02_plus.calls r r W
  rw [Nat.mod_eq_of_lt r2] at PR
  have SZ := fun W => lombardref02_size.calls (r + r) D r2 d260 W
  obtain ⟨R2, hR2⟩ : ∃ R2, R2 = r + r := ⟨_, rfl⟩
  rw [← hR2] at PR SZ
  have U0 : Aside0 (lombardref02_div.up 1 L N D = (decide (D < R2) || (decide (R2 = D) && decide (q % 2 = 1)))) := ⟨by unfold lombardref02_div.up; rw [if_neg (by decide), ← HR.out, ← HQ.out, hR2]⟩
  clear r2 hR2 d260
  rcases Nat.lt_trichotomy R2 D with lt | eq | gt
  · have ord : lombardref02_size.ord R2 D = -1 := by unfold lombardref02_size.ord; rw [if_pos lt]
    have UV : Aside0 (lombardref02_div.up 1 L N D = false) := ⟨by rw [U0.out, decide_eq_false (show ¬ D < R2 by omega), decide_eq_false (show ¬ R2 = D by omega)]; rfl⟩
    clear lt U0
    rw [ord] at SZ
    clear ord
    go_upto_region 12 with (fail)
    refine wp_region_held (S := fun W => B.HasC W (g + 1) (B.cells r) ∧ B.HasB W d lb D) (by kernel_rfl) ?_
    refine wpAnyH_take (i := 0) (v := .agg (B.cells r)) rfl (by kernel_rfl) (by kernel_rfl) (by kernel_rfl) (fun _ _ _ h => h) (Or.inl ⟨by rfl, fun W hS => B.load (.tmp 10) rfl rfl hS.1⟩) ⟨e10, e8⟩ ?_
    refine wpAnyH_take (i := 1) (v := .agg (B.cells r)) rfl (by kernel_rfl) (by kernel_rfl) (by kernel_rfl) (fun _ _ _ h => h) (Or.inl ⟨by rfl, fun W hS => B.load (.tmp 10) rfl rfl hS.1⟩) ⟨e10, e8⟩ ?_
    refine wpAnyH_take (i := 3) (v := .pointer (some ⟨d, 1, none⟩)) rfl (by kernel_rfl) (by kernel_rfl) (by kernel_rfl) (fun _ _ _ h => h) (Or.inl ⟨by rfl, fun W hS => by go_simp⟩) ⟨e10, e8⟩ ?_
    refine wpAnyH_take (i := 4) (v := .agg (B.cells D)) rfl (by kernel_rfl) (by kernel_rfl) (by kernel_rfl) (fun _ _ _ h => h) (Or.inl ⟨by rfl, fun W hS => B.loadB (.tmp 54) rfl rfl hS.2⟩) ⟨e10, e8⟩ ?_
    refine wpAnyH_all (rs := [2]) (by kernel_rfl) (by simp) fun i hi => ?_
    obtain rfl : i = 2 := by simpa using hi
    refine B.opCall (i := 2) rfl rfl (.agg (B.cells r)) (.agg (B.cells r)) 69 _ (.tmp 51) (.tmp 52) _ Try.func69 rfl rfl rfl rfl rfl ?_
    refine (PR _).mono ?_
    rintro e w6 ⟨rfl, hb6⟩
    refine ⟨_, rfl, ?_⟩
    have t8 : B.HasB w6 d lb D := B.HasB.below (w := { w4 with drawn := w4.drawn + 1 }) e8 hb6
    have t9 : B.Has w6 g q := B.Has.below (w := { w4 with drawn := w4.drawn + 1 }) e9 hb6
    have t10 : B.Has w6 (g + 1) r := B.Has.below (w := { w4 with drawn := w4.drawn + 1 }) e10 hb6
    have t12 : B.Has w6 o 1 := B.Has.below (w := { w4 with drawn := w4.drawn + 1 }) e12 hb6
    have V7 := below_then W7.drew W7.drew.size hb6
    refine ⟨⟨t10, t8⟩, ?_⟩
    clear e8 e9 e10 e12 W7 hb6
    refine wpAnyH_all (rs := [5]) (by kernel_rfl) (by simp) fun i hi => ?_
    obtain rfl : i = 5 := by simpa using hi
    refine B.opCall (i := 5) rfl rfl (.agg (B.cells R2)) (.agg (B.cells D)) 68 _ (.tmp 53) (.tmp 55) _ Try.func68 rfl rfl rfl rfl rfl ?_
    refine (SZ _).mono ?_
    rintro e w7 ⟨rfl, hb7⟩
    refine ⟨_, rfl, ?_⟩
    have e9 := t9.below hb7
    have e12 := t12.below hb7
    have W7 := below_then V7 V7.size hb7
    refine ⟨⟨t10.below hb7, t8.below hb7⟩, ?_⟩
    refine wpAnyH_take (i := 6) (v := .int .i64 (-1)) rfl (by kernel_rfl) (by kernel_rfl) (by kernel_rfl) (fun _ _ _ h => h) (Or.inl ⟨by rfl, fun W hS => by go_simp⟩) ⟨t10.below hb7, t8.below hb7⟩ ?_
    refine wpAnyH_done (by kernel_rfl) ?_ _
    clear t8 t9 t10 t12 V7 hb7 PR SZ
    go_upto_region 14 with (fail)
    have uv : lombardref02_div.up 1 L N D = false := by exact UV.out
    have qv : lombardref02_div.Q 1 L N D = q := by unfold lombardref02_div.Q; rw [uv]; rw [if_neg (by simp), HQ.out]
    obtain ⟨M, hM⟩ : ∃ M, M = q := ⟨_, rfl⟩
    have SX := fun W => SM M (by rw [hM]; omega) W
    obtain ⟨v, hv⟩ : ∃ v, v = lombardref02_small.v L M := ⟨_, rfl⟩
    obtain ⟨k, hk⟩ : ∃ k, k = lombardref02_small.ok L M := ⟨_, rfl⟩
    have RES : Aside0 (lombardref02_div.r 1 L N D = (if k = true then v else 0) ∧ lombardref02_div.e 1 L N D = if k = true then 0 else 3) := ⟨by
      unfold lombardref02_div.r lombardref02_div.e
      rw [qv, ← hM, ← hv, ← hk]
      exact ⟨rfl, rfl⟩⟩
    rw [← hv, ← hk] at SX
    clear SM uv qv hv hk
    rw [← hM] at e9
    clear hM
    go_upto_region 16 with (fail)
    have m9 := e9
    have M7 := W7
    clear e9 e12 W7 PL
    go_upto_region 17 with (first | ((with_reducible refine B.gateOp (.load 91 (.tmp 9)) rfl ?_); refine wpList_load_row rfl 91 (.tmp 9) rfl g rfl 91 (B.cells M) (0, 0) _ m9 B.under rfl (B.infoN _) ?_) | ((with_reducible refine B.gateOp (.build 93 #[(0, .tmp 73), (1, .tmp 74)]) rfl ?_); refine B.wpBuildLQ rfl (.tmp 73) (.tmp 74) rfl L M rfl rfl ?_) | (go_at_call 70; (with_reducible refine (SX _).mono ?_); rintro e w9 ⟨rfl, hb9⟩))
    have B9 := below_then M7 M7.size hb9
    clear m9 M7 hb9 SX
    cases k with
    | true =>
      go_wp2
      go_ret2
      exact ⟨by rw [RES.out.1, RES.out.2]; rfl, B9⟩
    | false =>
      go_wp2
      go_ret2
      exact ⟨by rw [RES.out.1, RES.out.2]; rfl, B9⟩
  · have ord : lombardref02_size.ord R2 D = 0 := by unfold lombardref02_size.ord; rw [if_neg (by omega), if_neg (by omega)]
    by_cases odd : q % 2 = 1
    · have UV : Aside0 (lombardref02_div.up 1 L N D = true) := ⟨by rw [U0.out, decide_eq_true eq, decide_eq_true odd]; simp⟩
      have bq : B.bit q 0 = 1 := by unfold B.bit Go.Proofs.Ytchpeobenlnemaa.BigMath.bitN; rw [Nat.pow_zero, Nat.div_one, odd]; rfl
      clear eq U0 odd
      rw [ord] at SZ
      clear ord
      go_upto_region 12 with (fail)
      refine wp_region_held (S := fun W => B.HasC W (g + 1) (B.cells r) ∧ B.HasB W d lb D) (by kernel_rfl) ?_
      refine wpAnyH_take (i := 0) (v := .agg (B.cells r)) rfl (by kernel_rfl) (by kernel_rfl) (by kernel_rfl) (fun _ _ _ h => h) (Or.inl ⟨by rfl, fun W hS => B.load (.tmp 10) rfl rfl hS.1⟩) ⟨e10, e8⟩ ?_
      refine wpAnyH_take (i := 1) (v := .agg (B.cells r)) rfl (by kernel_rfl) (by kernel_rfl) (by kernel_rfl) (fun _ _ _ h => h) (Or.inl ⟨by rfl, fun W hS => B.load (.tmp 10) rfl rfl hS.1⟩) ⟨e10, e8⟩ ?_
      refine wpAnyH_take (i := 3) (v := .pointer (some ⟨d, 1, none⟩)) rfl (by kernel_rfl) (by kernel_rfl) (by kernel_rfl) (fun _ _ _ h => h) (Or.inl ⟨by rfl, fun W hS => by go_simp⟩) ⟨e10, e8⟩ ?_
      refine wpAnyH_take (i := 4) (v := .agg (B.cells D)) rfl (by kernel_rfl) (by kernel_rfl) (by kernel_rfl) (fun _ _ _ h => h) (Or.inl ⟨by rfl, fun W hS => B.loadB (.tmp 54) rfl rfl hS.2⟩) ⟨e10, e8⟩ ?_
      refine wpAnyH_all (rs := [2]) (by kernel_rfl) (by simp) fun i hi => ?_
      obtain rfl : i = 2 := by simpa using hi
      refine B.opCall (i := 2) rfl rfl (.agg (B.cells r)) (.agg (B.cells r)) 69 _ (.tmp 51) (.tmp 52) _ Try.func69 rfl rfl rfl rfl rfl ?_
      refine (PR _).mono ?_
      rintro e w6 ⟨rfl, hb6⟩
      refine ⟨_, rfl, ?_⟩
      have t8 : B.HasB w6 d lb D := B.HasB.below (w := { w4 with drawn := w4.drawn + 1 }) e8 hb6
      have t9 : B.Has w6 g q := B.Has.below (w := { w4 with drawn := w4.drawn + 1 }) e9 hb6
      have t10 : B.Has w6 (g + 1) r := B.Has.below (w := { w4 with drawn := w4.drawn + 1 }) e10 hb6
      have t12 : B.Has w6 o 1 := B.Has.below (w := { w4 with drawn := w4.drawn + 1 }) e12 hb6
      have V7 := below_then W7.drew W7.drew.size hb6
      refine ⟨⟨t10, t8⟩, ?_⟩
      clear e8 e9 e10 e12 W7 hb6
      refine wpAnyH_all (rs := [5]) (by kernel_rfl) (by simp) fun i hi => ?_
      obtain rfl : i = 5 := by simpa using hi
      refine B.opCall (i := 5) rfl rfl (.agg (B.cells R2)) (.agg (B.cells D)) 68 _ (.tmp 53) (.tmp 55) _ Try.func68 rfl rfl rfl rfl rfl ?_
      refine (SZ _).mono ?_
      rintro e w7 ⟨rfl, hb7⟩
      refine ⟨_, rfl, ?_⟩
      have e9 := t9.below hb7
      have e12 := t12.below hb7
      have W7 := below_then V7 V7.size hb7
      refine ⟨⟨t10.below hb7, t8.below hb7⟩, ?_⟩
      refine wpAnyH_take (i := 6) (v := .int .i64 (0)) rfl (by kernel_rfl) (by kernel_rfl) (by kernel_rfl) (fun _ _ _ h => h) (Or.inl ⟨by rfl, fun W hS => by go_simp⟩) ⟨t10.below hb7, t8.below hb7⟩ ?_
      refine wpAnyH_done (by kernel_rfl) ?_ _
      clear t8 t9 t10 t12 V7 hb7 PR SZ
      have x9 := B.ix g 0 (by omega)
      have c9 := e9.cell (i := 0) (by omega)
      rw [bq] at c9
      clear bq
      go_upto_region 14 with (fail)
      clear x9 c9
      have uv : lombardref02_div.up 1 L N D = true := by exact UV.out
      have qv : lombardref02_div.Q 1 L N D = (q + 1) := by unfold lombardref02_div.Q; rw [uv]; rw [if_pos rfl, HQ.out]
      obtain ⟨M, hM⟩ : ∃ M, M = (q + 1) := ⟨_, rfl⟩
      have SX := fun W => SM M (by rw [hM]; omega) W
      obtain ⟨v, hv⟩ : ∃ v, v = lombardref02_small.v L M := ⟨_, rfl⟩
      obtain ⟨k, hk⟩ : ∃ k, k = lombardref02_small.ok L M := ⟨_, rfl⟩
      have RES : Aside0 (lombardref02_div.r 1 L N D = (if k = true then v else 0) ∧ lombardref02_div.e 1 L N D = if k = true then 0 else 3) := ⟨by
        unfold lombardref02_div.r lombardref02_div.e
        rw [qv, ← hM, ← hv, ← hk]
        exact ⟨rfl, rfl⟩⟩
      rw [← hv, ← hk] at SX
      clear SM uv qv hv hk
      rw [← hM] at PL
      clear hM
      go_upto_region 16 with (first | ((with_reducible refine B.gateOp (.load 91 (.tmp 9)) rfl ?_); refine wpList_load_row rfl 91 (.tmp 9) rfl g rfl 91 (B.cells q) (0, 0) _ e9 B.under rfl (B.infoN _) ?_) | ((with_reducible refine B.gateOp (.load 91 (.tmp 12)) rfl ?_); refine wpList_load_row rfl 91 (.tmp 12) rfl o rfl 91 (B.cells 1) (0, 0) _ e12 B.under rfl (B.infoN _) ?_) | (go_at_call 69; (with_reducible refine (PL _).mono ?_); rintro e w7 ⟨rfl, hb7⟩; have f9 := e9.below hb7) | ((with_reducible refine B.gateOp (.store 91 (.tmp 9) (.tmp 71)) rfl ?_); refine wpList_store_row rfl 91 (.tmp 9) (.tmp 71) rfl g (B.cells M) rfl rfl 91 _ f9 (B.infoN _) (by rw [B.size, B.size]) (B.plain _) ?_))
      have m9 := B.Has.row f9 M
      have M7 := B.below_row (below_then W7 W7.size hb7) (k := g) (by omega) (B.cells M)
      clear f9 hb7 e9 e12 W7 PL
      generalize w7.setRow g (B.cells M) = w8 at *
      go_upto_region 17 with (first | ((with_reducible refine B.gateOp (.load 91 (.tmp 9)) rfl ?_); refine wpList_load_row rfl 91 (.tmp 9) rfl g rfl 91 (B.cells M) (0, 0) _ m9 B.under rfl (B.infoN _) ?_) | ((with_reducible refine B.gateOp (.build 93 #[(0, .tmp 73), (1, .tmp 74)]) rfl ?_); refine B.wpBuildLQ rfl (.tmp 73) (.tmp 74) rfl L M rfl rfl ?_) | (go_at_call 70; (with_reducible refine (SX _).mono ?_); rintro e w9 ⟨rfl, hb9⟩))
      have B9 := below_then M7 M7.size hb9
      clear m9 M7 hb9 SX
      cases k with
      | true =>
        go_wp2
        go_ret2
        exact ⟨by rw [RES.out.1, RES.out.2]; rfl, B9⟩
      | false =>
        go_wp2
        go_ret2
        exact ⟨by rw [RES.out.1, RES.out.2]; rfl, B9⟩
    · have UV : Aside0 (lombardref02_div.up 1 L N D = false) := ⟨by rw [U0.out, decide_eq_false odd, decide_eq_false (show ¬ D < R2 by omega)]; simp⟩
      have bq : B.bit q 0 = 0 := by unfold B.bit Go.Proofs.Ytchpeobenlnemaa.BigMath.bitN; rw [Nat.pow_zero, Nat.div_one, show q % 2 = 0 by omega]; rfl
      clear eq U0 odd
      rw [ord] at SZ
      clear ord
      go_upto_region 12 with (fail)
      refine wp_region_held (S := fun W => B.HasC W (g + 1) (B.cells r) ∧ B.HasB W d lb D) (by kernel_rfl) ?_
      refine wpAnyH_take (i := 0) (v := .agg (B.cells r)) rfl (by kernel_rfl) (by kernel_rfl) (by kernel_rfl) (fun _ _ _ h => h) (Or.inl ⟨by rfl, fun W hS => B.load (.tmp 10) rfl rfl hS.1⟩) ⟨e10, e8⟩ ?_
      refine wpAnyH_take (i := 1) (v := .agg (B.cells r)) rfl (by kernel_rfl) (by kernel_rfl) (by kernel_rfl) (fun _ _ _ h => h) (Or.inl ⟨by rfl, fun W hS => B.load (.tmp 10) rfl rfl hS.1⟩) ⟨e10, e8⟩ ?_
      refine wpAnyH_take (i := 3) (v := .pointer (some ⟨d, 1, none⟩)) rfl (by kernel_rfl) (by kernel_rfl) (by kernel_rfl) (fun _ _ _ h => h) (Or.inl ⟨by rfl, fun W hS => by go_simp⟩) ⟨e10, e8⟩ ?_
      refine wpAnyH_take (i := 4) (v := .agg (B.cells D)) rfl (by kernel_rfl) (by kernel_rfl) (by kernel_rfl) (fun _ _ _ h => h) (Or.inl ⟨by rfl, fun W hS => B.loadB (.tmp 54) rfl rfl hS.2⟩) ⟨e10, e8⟩ ?_
      refine wpAnyH_all (rs := [2]) (by kernel_rfl) (by simp) fun i hi => ?_
      obtain rfl : i = 2 := by simpa using hi
      refine B.opCall (i := 2) rfl rfl (.agg (B.cells r)) (.agg (B.cells r)) 69 _ (.tmp 51) (.tmp 52) _ Try.func69 rfl rfl rfl rfl rfl ?_
      refine (PR _).mono ?_
      rintro e w6 ⟨rfl, hb6⟩
      refine ⟨_, rfl, ?_⟩
      have t8 : B.HasB w6 d lb D := B.HasB.below (w := { w4 with drawn := w4.drawn + 1 }) e8 hb6
      have t9 : B.Has w6 g q := B.Has.below (w := { w4 with drawn := w4.drawn + 1 }) e9 hb6
      have t10 : B.Has w6 (g + 1) r := B.Has.below (w := { w4 with drawn := w4.drawn + 1 }) e10 hb6
      have t12 : B.Has w6 o 1 := B.Has.below (w := { w4 with drawn := w4.drawn + 1 }) e12 hb6
      have V7 := below_then W7.drew W7.drew.size hb6
      refine ⟨⟨t10, t8⟩, ?_⟩
      clear e8 e9 e10 e12 W7 hb6
      refine wpAnyH_all (rs := [5]) (by kernel_rfl) (by simp) fun i hi => ?_
      obtain rfl : i = 5 := by simpa using hi
      refine B.opCall (i := 5) rfl rfl (.agg (B.cells R2)) (.agg (B.cells D)) 68 _ (.tmp 53) (.tmp 55) _ Try.func68 rfl rfl rfl rfl rfl ?_
      refine (SZ _).mono ?_
      rintro e w7 ⟨rfl, hb7⟩
      refine ⟨_, rfl, ?_⟩
      have e9 := t9.below hb7
      have e12 := t12.below hb7
      have W7 := below_then V7 V7.size hb7
      refine ⟨⟨t10.below hb7, t8.below hb7⟩, ?_⟩
      refine wpAnyH_take (i := 6) (v := .int .i64 (0)) rfl (by kernel_rfl) (by kernel_rfl) (by kernel_rfl) (fun _ _ _ h => h) (Or.inl ⟨by rfl, fun W hS => by go_simp⟩) ⟨t10.below hb7, t8.below hb7⟩ ?_
      refine wpAnyH_done (by kernel_rfl) ?_ _
      clear t8 t9 t10 t12 V7 hb7 PR SZ
      have x9 := B.ix g 0 (by omega)
      have c9 := e9.cell (i := 0) (by omega)
      rw [bq] at c9
      clear bq
      go_upto_region 14 with (fail)
      clear x9 c9
      have uv : lombardref02_div.up 1 L N D = false := by exact UV.out
      have qv : lombardref02_div.Q 1 L N D = q := by unfold lombardref02_div.Q; rw [uv]; rw [if_neg (by simp), HQ.out]
      obtain ⟨M, hM⟩ : ∃ M, M = q := ⟨_, rfl⟩
      have SX := fun W => SM M (by rw [hM]; omega) W
      obtain ⟨v, hv⟩ : ∃ v, v = lombardref02_small.v L M := ⟨_, rfl⟩
      obtain ⟨k, hk⟩ : ∃ k, k = lombardref02_small.ok L M := ⟨_, rfl⟩
      have RES : Aside0 (lombardref02_div.r 1 L N D = (if k = true then v else 0) ∧ lombardref02_div.e 1 L N D = if k = true then 0 else 3) := ⟨by
        unfold lombardref02_div.r lombardref02_div.e
        rw [qv, ← hM, ← hv, ← hk]
        exact ⟨rfl, rfl⟩⟩
      rw [← hv, ← hk] at SX
      clear SM uv qv hv hk
      rw [← hM] at e9
      clear hM
      go_upto_region 16 with (fail)
      have m9 := e9
      have M7 := W7
      clear e9 e12 W7 PL
      go_upto_region 17 with (first | ((with_reducible refine B.gateOp (.load 91 (.tmp 9)) rfl ?_); refine wpList_load_row rfl 91 (.tmp 9) rfl g rfl 91 (B.cells M) (0, 0) _ m9 B.under rfl (B.infoN _) ?_) | ((with_reducible refine B.gateOp (.build 93 #[(0, .tmp 73), (1, .tmp 74)]) rfl ?_); refine B.wpBuildLQ rfl (.tmp 73) (.tmp 74) rfl L M rfl rfl ?_) | (go_at_call 70; (with_reducible refine (SX _).mono ?_); rintro e w9 ⟨rfl, hb9⟩))
      have B9 := below_then M7 M7.size hb9
      clear m9 M7 hb9 SX
      cases k with
      | true =>
        go_wp2
        go_ret2
        exact ⟨by rw [RES.out.1, RES.out.2]; rfl, B9⟩
      | false =>
        go_wp2
        go_ret2
        exact ⟨by rw [RES.out.1, RES.out.2]; rfl, B9⟩
  · have ord : lombardref02_size.ord R2 D = 1 := by unfold lombardref02_size.ord; rw [if_neg (by omega), if_pos gt]
    have UV : Aside0 (lombardref02_div.up 1 L N D = true) := ⟨by rw [U0.out, decide_eq_true gt]; rfl⟩
    clear gt U0
    rw [ord] at SZ
    clear ord
    go_upto_region 12 with (fail)
    refine wp_region_held (S := fun W => B.HasC W (g + 1) (B.cells r) ∧ B.HasB W d lb D) (by kernel_rfl) ?_
    refine wpAnyH_take (i := 0) (v := .agg (B.cells r)) rfl (by kernel_rfl) (by kernel_rfl) (by kernel_rfl) (fun _ _ _ h => h) (Or.inl ⟨by rfl, fun W hS => B.load (.tmp 10) rfl rfl hS.1⟩) ⟨e10, e8⟩ ?_
    refine wpAnyH_take (i := 1) (v := .agg (B.cells r)) rfl (by kernel_rfl) (by kernel_rfl) (by kernel_rfl) (fun _ _ _ h => h) (Or.inl ⟨by rfl, fun W hS => B.load (.tmp 10) rfl rfl hS.1⟩) ⟨e10, e8⟩ ?_
    refine wpAnyH_take (i := 3) (v := .pointer (some ⟨d, 1, none⟩)) rfl (by kernel_rfl) (by kernel_rfl) (by kernel_rfl) (fun _ _ _ h => h) (Or.inl ⟨by rfl, fun W hS => by go_simp⟩) ⟨e10, e8⟩ ?_
    refine wpAnyH_take (i := 4) (v := .agg (B.cells D)) rfl (by kernel_rfl) (by kernel_rfl) (by kernel_rfl) (fun _ _ _ h => h) (Or.inl ⟨by rfl, fun W hS => B.loadB (.tmp 54) rfl rfl hS.2⟩) ⟨e10, e8⟩ ?_
    refine wpAnyH_all (rs := [2]) (by kernel_rfl) (by simp) fun i hi => ?_
    obtain rfl : i = 2 := by simpa using hi
    refine B.opCall (i := 2) rfl rfl (.agg (B.cells r)) (.agg (B.cells r)) 69 _ (.tmp 51) (.tmp 52) _ Try.func69 rfl rfl rfl rfl rfl ?_
    refine (PR _).mono ?_
    rintro e w6 ⟨rfl, hb6⟩
    refine ⟨_, rfl, ?_⟩
    have t8 : B.HasB w6 d lb D := B.HasB.below (w := { w4 with drawn := w4.drawn + 1 }) e8 hb6
    have t9 : B.Has w6 g q := B.Has.below (w := { w4 with drawn := w4.drawn + 1 }) e9 hb6
    have t10 : B.Has w6 (g + 1) r := B.Has.below (w := { w4 with drawn := w4.drawn + 1 }) e10 hb6
    have t12 : B.Has w6 o 1 := B.Has.below (w := { w4 with drawn := w4.drawn + 1 }) e12 hb6
    have V7 := below_then W7.drew W7.drew.size hb6
    refine ⟨⟨t10, t8⟩, ?_⟩
    clear e8 e9 e10 e12 W7 hb6
    refine wpAnyH_all (rs := [5]) (by kernel_rfl) (by simp) fun i hi => ?_
    obtain rfl : i = 5 := by simpa using hi
    refine B.opCall (i := 5) rfl rfl (.agg (B.cells R2)) (.agg (B.cells D)) 68 _ (.tmp 53) (.tmp 55) _ Try.func68 rfl rfl rfl rfl rfl ?_
    refine (SZ _).mono ?_
    rintro e w7 ⟨rfl, hb7⟩
    refine ⟨_, rfl, ?_⟩
    have e9 := t9.below hb7
    have e12 := t12.below hb7
    have W7 := below_then V7 V7.size hb7
    refine ⟨⟨t10.below hb7, t8.below hb7⟩, ?_⟩
    refine wpAnyH_take (i := 6) (v := .int .i64 (1)) rfl (by kernel_rfl) (by kernel_rfl) (by kernel_rfl) (fun _ _ _ h => h) (Or.inl ⟨by rfl, fun W hS => by go_simp⟩) ⟨t10.below hb7, t8.below hb7⟩ ?_
    refine wpAnyH_done (by kernel_rfl) ?_ _
    clear t8 t9 t10 t12 V7 hb7 PR SZ
    go_upto_region 14 with (fail)
    have uv : lombardref02_div.up 1 L N D = true := by exact UV.out
    have qv : lombardref02_div.Q 1 L N D = (q + 1) := by unfold lombardref02_div.Q; rw [uv]; rw [if_pos rfl, HQ.out]
    obtain ⟨M, hM⟩ : ∃ M, M = (q + 1) := ⟨_, rfl⟩
    have SX := fun W => SM M (by rw [hM]; omega) W
    obtain ⟨v, hv⟩ : ∃ v, v = lombardref02_small.v L M := ⟨_, rfl⟩
    obtain ⟨k, hk⟩ : ∃ k, k = lombardref02_small.ok L M := ⟨_, rfl⟩
    have RES : Aside0 (lombardref02_div.r 1 L N D = (if k = true then v else 0) ∧ lombardref02_div.e 1 L N D = if k = true then 0 else 3) := ⟨by
      unfold lombardref02_div.r lombardref02_div.e
      rw [qv, ← hM, ← hv, ← hk]
      exact ⟨rfl, rfl⟩⟩
    rw [← hv, ← hk] at SX
    clear SM uv qv hv hk
    rw [← hM] at PL
    clear hM
    go_upto_region 16 with (first | ((with_reducible refine B.gateOp (.load 91 (.tmp 9)) rfl ?_); refine wpList_load_row rfl 91 (.tmp 9) rfl g rfl 91 (B.cells q) (0, 0) _ e9 B.under rfl (B.infoN _) ?_) | ((with_reducible refine B.gateOp (.load 91 (.tmp 12)) rfl ?_); refine wpList_load_row rfl 91 (.tmp 12) rfl o rfl 91 (B.cells 1) (0, 0) _ e12 B.under rfl (B.infoN _) ?_) | (go_at_call 69; (with_reducible refine (PL _).mono ?_); rintro e w7 ⟨rfl, hb7⟩; have f9 := e9.below hb7) | ((with_reducible refine B.gateOp (.store 91 (.tmp 9) (.tmp 71)) rfl ?_); refine wpList_store_row rfl 91 (.tmp 9) (.tmp 71) rfl g (B.cells M) rfl rfl 91 _ f9 (B.infoN _) (by rw [B.size, B.size]) (B.plain _) ?_))
    have m9 := B.Has.row f9 M
    have M7 := B.below_row (below_then W7 W7.size hb7) (k := g) (by omega) (B.cells M)
    clear f9 hb7 e9 e12 W7 PL
    generalize w7.setRow g (B.cells M) = w8 at *
    go_upto_region 17 with (first | ((with_reducible refine B.gateOp (.load 91 (.tmp 9)) rfl ?_); refine wpList_load_row rfl 91 (.tmp 9) rfl g rfl 91 (B.cells M) (0, 0) _ m9 B.under rfl (B.infoN _) ?_) | ((with_reducible refine B.gateOp (.build 93 #[(0, .tmp 73), (1, .tmp 74)]) rfl ?_); refine B.wpBuildLQ rfl (.tmp 73) (.tmp 74) rfl L M rfl rfl ?_) | (go_at_call 70; (with_reducible refine (SX _).mono ?_); rintro e w9 ⟨rfl, hb9⟩))
    have B9 := below_then M7 M7.size hb9
    clear m9 M7 hb9 SX
    cases k with
    | true =>
      go_wp2
      go_ret2
      exact ⟨by rw [RES.out.1, RES.out.2]; rfl, B9⟩
    | false =>
      go_wp2
      go_ret2
      exact ⟨by rw [RES.out.1, RES.out.2]; rfl, B9⟩
set_option maxRecDepth 100000 in
set_option maxHeartbeats 8000000 in
theorem lombardref02_div.callsW (less : Bool) (N : Nat) (b way : Int) (h0 : way ≠ 0) (h1 : way ≠ 1) (w : World) : Calls Try.prog 59 #[.agg (B.big less N), .int .i64 b, .int .i64 way] w fun e w' => e = .returned (.tuple #[.int .i64 0, .int .i64 2]) ∧ Below w.heap.size w w' := by
  have q0 : (way != 0) = true := by simp [h0]
  have q1 : (way != 1) = true := by simp [h1]
  clear h0 h1
  have W1 := below_alloc (Below.refl w.heap.size w) (.cells (B.big less N) 93)
  go_enter Try.func59, Try.ntmps59
  go_wp2
  go_ret2
  exact ⟨rfl, W1⟩
set_option maxRecDepth 100000 in
set_option maxHeartbeats 8000000 in
theorem lombardref02_div.callsZ0 (less : Bool) (N : Nat) (w : World) : Calls Try.prog 59 #[.agg (B.big less N), .int .i64 0, .int .i64 0] w fun e w' => e = .returned (.tuple #[.int .i64 0, .int .i64 4]) ∧ Below w.heap.size w w' := by
  have W1 := below_alloc (Below.refl w.heap.size w) (.cells (B.big less N) 93)
  go_enter Try.func59, Try.ntmps59
  go_wp2
  go_ret2
  exact ⟨rfl, W1⟩
set_option maxRecDepth 100000 in
set_option maxHeartbeats 8000000 in
theorem lombardref02_div.callsZ1 (less : Bool) (N : Nat) (w : World) : Calls Try.prog 59 #[.agg (B.big less N), .int .i64 0, .int .i64 1] w fun e w' => e = .returned (.tuple #[.int .i64 0, .int .i64 4]) ∧ Below w.heap.size w w' := by
  have W1 := below_alloc (Below.refl w.heap.size w) (.cells (B.big less N) 93)
  go_enter Try.func59, Try.ntmps59
  go_wp2
  go_ret2
  exact ⟨rfl, W1⟩
def lombardref02_div.v (less : Bool) (N : Nat) (b way : Int) : Int × Int :=
  if way ≠ 0 ∧ way ≠ 1 then (0, 2) else if b = 0 then (0, 4) else (lombardref02_div.r way (less != decide (b < 0)) N b.natAbs, lombardref02_div.e way (less != decide (b < 0)) N b.natAbs)
theorem lombardref02_div.calls (less : Bool) (N : Nat) (hN : N < 2 ^ 256) (b way : Int) (b0 : -9223372036854775808 ≤ b) (b1 : b ≤ 9223372036854775807) (w : World) : Calls Try.prog 59 #[.agg (B.big less N), .int .i64 b, .int .i64 way] w fun e w' => e = .returned (.tuple #[.int .i64 (lombardref02_div.v less N b way).1, .int .i64 (lombardref02_div.v less N b way).2]) ∧ Below w.heap.size w w' := by
  unfold lombardref02_div.v
  by_cases c : way ≠ 0 ∧ way ≠ 1
  · rw [if_pos c]
    exact lombardref02_div.callsW less N b way c.1 c.2 w
  · rw [if_neg c]
    by_cases z : b = 0
    · rw [if_pos z]
      subst z
      rcases (show way = 0 ∨ way = 1 by omega) with h | h <;> subst h
      · exact lombardref02_div.callsZ0 less N w
      · exact lombardref02_div.callsZ1 less N w
    · rw [if_neg z]
      rcases (show way = 0 ∨ way = 1 by omega) with h | h <;> subst h
      · exact lombardref02_div.calls0 less N hN b b0 b1 z w
      · exact lombardref02_div.calls1 less N hN b b0 b1 z w


end Go.Proofs.Ytchpeobenlnemaa.S
end

section
namespace Go.Proofs.Ytchpeobenlnemaa.S
open Go.RowKit Go.Proofs.YtchpeobenlnemaaW.PrintWords Go.Proofs.YtchpeobenlnemaaW.PrintLast Go.Proofs.YtchpeobenlnemaaW.PrintMore
attribute [local go_sem] max2_int min2_int max_two min_two max_three min_three max_four min_four   -- for this text's walks alone
attribute [local go_sem] Go.Proofs.Ytchpeobenlnemaa.XWalk.cell2
set_option linter.unusedVariables false
set_option linter.unusedSimpArgs false

/-! ### lombardref02_MulDiv: function 55 -/
-- IMPORT BigMath
def lombardref02_MulDiv.f (a0 a1 a2 a3 : Int) : Option (Int × Int) :=
  if -9223372036854775808 ≤ a0 ∧ a0 ≤ 9223372036854775807 ∧ -9223372036854775808 ≤ a1 ∧ a1 ≤ 9223372036854775807 ∧ -9223372036854775808 ≤ a2 ∧ a2 ≤ 9223372036854775807 then some (lombardref02_div.v (decide (a0 < 0) != decide (a1 < 0)) (a0.natAbs * a1.natAbs) a2 a3) else none
theorem lombardref02_MulDiv.lim {a b : Int} (a0 : -9223372036854775808 ≤ a) (a1 : a ≤ 9223372036854775807) (b0 : -9223372036854775808 ≤ b) (b1 : b ≤ 9223372036854775807) : a.natAbs * b.natAbs < 2 ^ 256 := by
  have h := Nat.mul_le_mul (show a.natAbs ≤ 9223372036854775808 by omega) (show b.natAbs ≤ 9223372036854775808 by omega)
  refine Nat.lt_of_le_of_lt h ?_
  decide
set_option maxRecDepth 100000 in
set_option maxHeartbeats 4000000 in
theorem lombardref02_MulDiv.calls (a0 a1 a2 a3 r1 r2 : Int) (w : World) (h : lombardref02_MulDiv.f a0 a1 a2 a3 = some (r1, r2)) : Calls Try.prog 55 #[.int .i64 a0, .int .i64 a1, .int .i64 a2, .int .i64 a3] w fun e w' => e = .returned (.tuple #[.int .i64 r1, .int .i64 r2]) ∧ Below w.heap.size w w' := by
  unfold lombardref02_MulDiv.f at h
  split at h
  · rename_i c
    have DV := fun W => lombardref02_div.calls (decide (a0 < 0) != decide (a1 < 0)) (a0.natAbs * a1.natAbs) (lombardref02_MulDiv.lim c.1 c.2.1 c.2.2.1 c.2.2.2.1) a2 a3 c.2.2.2.2.1 c.2.2.2.2.2 W
    have TM := fun W => lombardref02_times.calls a0 a1 c.1 c.2.1 c.2.2.1 c.2.2.2.1 W
    rw [Option.some.inj h] at DV
    generalize (decide (a0 < 0) != decide (a1 < 0)) = L at *
    generalize a0.natAbs * a1.natAbs = N at *
    clear h c
    have HB := Aside0.mk (Below.refl w.heap.size w)
    go_enter Try.func55, Try.ntmps55
    go_wp2_with (first | (go_at_call 60; (with_reducible refine (TM _).mono ?_); rintro e w1 ⟨rfl, h1⟩) | (go_at_call 59; (with_reducible refine (DV _).mono ?_); rintro e w2 ⟨rfl, h2⟩))
    go_ret2
    exact ⟨rfl, below_then h1 h1.size h2⟩
  · exact absurd h (by simp)


end Go.Proofs.Ytchpeobenlnemaa.S
end

section
namespace Go.Proofs.Ytchpeobenlnemaa.S
open Go.RowKit Go.Proofs.YtchpeobenlnemaaW.PrintWords Go.Proofs.YtchpeobenlnemaaW.PrintLast Go.Proofs.YtchpeobenlnemaaW.PrintMore
attribute [local go_sem] max2_int min2_int max_two min_two max_three min_three max_four min_four   -- for this text's walks alone
attribute [local go_sem] Go.Proofs.Ytchpeobenlnemaa.XWalk.cell2
set_option linter.unusedVariables false
set_option linter.unusedSimpArgs false

/-! ### lombardref03_near: function 48 -/
def lombardref03_near.f (a0 : Int) (a1 : Int) (a2 : Int) (a3 : Int) : Option (Int × Int) := (lombardref03_May.f a0).bind fun t209 => (if t209 = true then ((lombardref02_MulDiv.f a1 a2 a3 1).bind fun bt210 => (some (bt210.1, bt210.2))) else (some (0, 2)))
set_option maxHeartbeats 8000000 in
set_option maxRecDepth 100000 in
theorem lombardref03_near.calls (a0 : Int) (a1 : Int) (a2 : Int) (a3 : Int) (r1 : Int) (r2 : Int) (w : World) (h : lombardref03_near.f a0 a1 a2 a3 = some (r1, r2)) :
    Calls Try.prog 48 #[.int .i64 a0, .int .i64 a1, .int .i64 a2, .int .i64 a3] w fun e w' => e = .returned (.tuple #[.int .i64 r1, .int .i64 r2]) ∧ Below w.heap.size w w' := by
  have HB := Aside0.mk (Below.refl w.heap.size w)
  have H : ((lombardref03_May.f a0).bind fun t209 => (if t209 = true then ((lombardref02_MulDiv.f a1 a2 a3 1).bind fun bt210 => (some (bt210.1, bt210.2))) else (some (0, 2)))) = some (r1, r2) := h
  clear h
  replace H := Option.bind_eq_some_iff.mp H
  obtain ⟨t209, A50, H⟩ := H
  replace H : (if t209 = true then ((lombardref02_MulDiv.f a1 a2 a3 1).bind fun bt210 => (some (bt210.1, bt210.2))) else (some (0, 2))) = some (r1, r2) := H
  have A5 := Aside0.mk A50
  clear A50
  by_cases c6 : t209 = true
  · subst c6
    have H1 : ((lombardref02_MulDiv.f a1 a2 a3 1).bind fun bt210 => (some (bt210.1, bt210.2))) = some (r1, r2) := by rw [if_pos rfl] at H; exact H
    clear H
    have H := H1
    clear H1
    replace H := Option.bind_eq_some_iff.mp H
    obtain ⟨⟨t210, t211⟩, A70, H⟩ := H
    replace H : (some (t210, t211)) = some (r1, r2) := H
    have A7 := Aside0.mk A70
    clear A70
    simp only [Option.some.injEq, Prod.mk.injEq] at H
    obtain ⟨rfl, rfl⟩ := H
    go_enter Try.func48, Try.ntmps48
    go_wp2_with (first | ((with_reducible refine gate_callee (f := 54) rfl ?_); refine goesL_ (some 11) rfl rfl Try.func54 (by kernel_rfl) rfl #[.int .i64 a0] rfl (by (try simp only [List.map_toArray, List.map_cons, List.map_nil]); first | done | rfl | (simp only [List.length_drop, List.length_take]; rfl)) ?_; (with_reducible refine (lombardref03_May.calls a0 true _ A5.out).mono ?_); rintro e w' ⟨rfl, ⟨nd, rfl⟩⟩; refine ⟨_, rfl, ?_⟩) | ((with_reducible refine gate_callee (f := 55) rfl ?_); refine goesL_ (some 16) rfl rfl Try.func55 (by kernel_rfl) rfl #[.int .i64 a1, .int .i64 a2, .int .i64 a3, .int .i64 1] rfl (by (try simp only [List.map_toArray, List.map_cons, List.map_nil]); first | done | rfl | (simp only [List.length_drop, List.length_take]; rfl)) ?_; (with_reducible refine (lombardref02_MulDiv.calls a1 a2 a3 1 t210 t211 _ A7.out).mono ?_); rintro e w8 ⟨rfl, hb⟩; refine ⟨_, rfl, ?_⟩; have n0_ := Aside0.mk (below_step (by repeat (first | (with_reducible first | exact HB.out | apply below_alloc | apply pw_below_drewN | apply below_drew1) | exact HB.out)) hb); clear HB; have HB := n0_; clear n0_; (try clear hb); (try clear hb2); (try clear hk); (try clear hi)))
    go_ret2
    exact ⟨by first | rfl | (simp [errW_none, errW_some] <;> rfl) | (simp [*, errW_none, errW_some] <;> rfl), by repeat (first | (with_reducible first | exact HB.out | apply below_alloc | apply pw_below_drewN | apply below_drew1) | exact HB.out)⟩
  · replace c6 := Bool.eq_false_iff.mpr c6
    subst c6
    have H1 : (some (0, 2)) = some (r1, r2) := by rw [if_neg (show ¬ (false = true) by decide)] at H; exact H
    clear H
    have H := H1
    clear H1
    simp only [Option.some.injEq, Prod.mk.injEq] at H
    obtain ⟨rfl, rfl⟩ := H
    go_enter Try.func48, Try.ntmps48
    go_wp2_with (first | ((with_reducible refine gate_callee (f := 54) rfl ?_); refine goesL_ (some 11) rfl rfl Try.func54 (by kernel_rfl) rfl #[.int .i64 a0] rfl (by (try simp only [List.map_toArray, List.map_cons, List.map_nil]); first | done | rfl | (simp only [List.length_drop, List.length_take]; rfl)) ?_; (with_reducible refine (lombardref03_May.calls a0 false _ A5.out).mono ?_); rintro e w' ⟨rfl, ⟨nd, rfl⟩⟩; refine ⟨_, rfl, ?_⟩))
    go_ret2
    exact ⟨by first | rfl | (simp [errW_none, errW_some] <;> rfl) | (simp [*, errW_none, errW_some] <;> rfl), by repeat (first | (with_reducible first | exact HB.out | apply below_alloc | apply pw_below_drewN | apply below_drew1) | exact HB.out)⟩

end Go.Proofs.Ytchpeobenlnemaa.S
end

section
namespace Go.Proofs.Ytchpeobenlnemaa.S
open Go.RowKit Go.Proofs.YtchpeobenlnemaaW.PrintWords Go.Proofs.YtchpeobenlnemaaW.PrintLast Go.Proofs.YtchpeobenlnemaaW.PrintMore
attribute [local go_sem] max2_int min2_int max_two min_two max_three min_three max_four min_four   -- for this text's walks alone
attribute [local go_sem] Go.Proofs.Ytchpeobenlnemaa.XWalk.cell2
set_option linter.unusedVariables false
set_option linter.unusedSimpArgs false

/-! ### lombardref03_Interest: function 30 -/
def lombardref03_Interest.f (a0 : Int) (a1 : Int) : Option (Int × Int) := (lombardref03_near.f a1 a0 a1 1000000000000).bind fun bt212 => (some (bt212.1, bt212.2))
set_option maxHeartbeats 8000000 in
set_option maxRecDepth 100000 in
theorem lombardref03_Interest.calls (a0 : Int) (a1 : Int) (r1 : Int) (r2 : Int) (w : World) (h : lombardref03_Interest.f a0 a1 = some (r1, r2)) :
    Calls Try.prog 30 #[.int .i64 a0, .int .i64 a1] w fun e w' => e = .returned (.tuple #[.int .i64 r1, .int .i64 r2]) ∧ Below w.heap.size w w' := by
  have HB := Aside0.mk (Below.refl w.heap.size w)
  have H : ((lombardref03_near.f a1 a0 a1 1000000000000).bind fun bt212 => (some (bt212.1, bt212.2))) = some (r1, r2) := h
  clear h
  replace H := Option.bind_eq_some_iff.mp H
  obtain ⟨⟨t212, t213⟩, A30, H⟩ := H
  replace H : (some (t212, t213)) = some (r1, r2) := H
  have A3 := Aside0.mk A30
  clear A30
  simp only [Option.some.injEq, Prod.mk.injEq] at H
  obtain ⟨rfl, rfl⟩ := H
  go_enter Try.func30, Try.ntmps30
  go_wp2_with (first | ((with_reducible refine gate_callee (f := 48) rfl ?_); refine goesL_ (some 9) rfl rfl Try.func48 (by kernel_rfl) rfl #[.int .i64 a1, .int .i64 a0, .int .i64 a1, .int .i64 1000000000000] rfl (by (try simp only [List.map_toArray, List.map_cons, List.map_nil]); first | done | rfl | (simp only [List.length_drop, List.length_take]; rfl)) ?_; (with_reducible refine (lombardref03_near.calls a1 a0 a1 1000000000000 t212 t213 _ A3.out).mono ?_); rintro e w4 ⟨rfl, hb⟩; refine ⟨_, rfl, ?_⟩; have n0_ := Aside0.mk (below_step (by repeat (first | (with_reducible first | exact HB.out | apply below_alloc | apply pw_below_drewN | apply below_drew1) | exact HB.out)) hb); clear HB; have HB := n0_; clear n0_; (try clear hb); (try clear hb2); (try clear hk); (try clear hi)))
  go_ret2
  exact ⟨by first | rfl | (simp [errW_none, errW_some] <;> rfl) | (simp [*, errW_none, errW_some] <;> rfl), by repeat (first | (with_reducible first | exact HB.out | apply below_alloc | apply pw_below_drewN | apply below_drew1) | exact HB.out)⟩

end Go.Proofs.Ytchpeobenlnemaa.S
end

section
namespace Go.Proofs.Ytchpeobenlnemaa.S
open Go.RowKit Go.Proofs.YtchpeobenlnemaaW.PrintWords Go.Proofs.YtchpeobenlnemaaW.PrintLast Go.Proofs.YtchpeobenlnemaaW.PrintMore
attribute [local go_sem] max2_int min2_int max_two min_two max_three min_three max_four min_four   -- for this text's walks alone
attribute [local go_sem] Go.Proofs.Ytchpeobenlnemaa.XWalk.cell2
set_option linter.unusedVariables false
set_option linter.unusedSimpArgs false

/-! ### lombardref08_pays: function 39 -/
mutual
def lombardref08_pays.l0 : Nat → Int → Int → Int → Int → Int → Option (Bool)
  | 0, _, _, _, _, _ => none
  | k + 1, x0, x1, x2, x3, x9 => if x9 < x2 then (lombardref08_pays.j1 k x0 x1 x2 x3 x9 (decide (x0 > 0))) else (lombardref08_pays.j1 k x0 x1 x2 x3 x9 false)
def lombardref08_pays.j1 : Nat → Int → Int → Int → Int → Int → Bool → Option (Bool)
  | 0, _, _, _, _, _, _ => none
  | k + 1, x0, x1, x2, x3, x9, x18 => if x18 = true then ((lombardref03_Interest.f x0 x1).bind fun bt214 => (if (wrap64 (x0 + (wrap64 (bt214.1 - x3)))) > 40000000000000 then (some false) else (lombardref08_pays.l0 k (wrap64 (x0 + (wrap64 (bt214.1 - x3)))) x1 x2 x3 (wrap64 (x9 + 1))))) else (some (decide (x0 ≤ 0)))
end
def lombardref08_pays.f (k : Nat) (a0 : Int) (a1 : Int) (a2 : Int) (a3 : Int) : Option (Bool) := lombardref08_pays.l0 k a0 a1 a2 a3 0
set_option maxHeartbeats 8000000 in
set_option maxRecDepth 100000 in
theorem lombardref08_pays.calls (k : Nat) (a0 : Int) (a1 : Int) (a2 : Int) (a3 : Int) (r : Bool) (w : World) (h : lombardref08_pays.f k a0 a1 a2 a3 = some r) :
    Calls Try.prog 39 #[.int .i64 a0, .int .i64 a1, .int .i64 a2, .int .i64 a3] w fun e w' => e = .returned (.bool r) ∧ Below w.heap.size w w' := by
  have HB := Aside0.mk (Below.refl w.heap.size w)
  have H : (lombardref08_pays.l0 k a0 a1 a2 a3 0) = some r := h
  clear h
  have H' := Aside0.mk H
  clear H
  go_enter Try.func39, Try.ntmps39
  go_wp2
  go_loopg [0, 9] k (fun kq v0 v9 w' => ∃ (x0_1 : Int) (x9_1 : Int), v0 = .int .i64 x0_1 ∧ v9 = .int .i64 x9_1 ∧ Aside0 (lombardref08_pays.l0 kq x0_1 a1 a2 a3 x9_1 = some r) ∧ Aside0 (kq ≤ k) ∧ Aside0 (Below w.heap.size w w'))
  case atStart => exact ⟨(a0), (0), (by first | rfl | (simp; done) | (simp [*]; done)), (by first | rfl | (simp; done) | (simp [*]; done)), H', ⟨Nat.le_refl _⟩, ⟨by repeat (first | (with_reducible first | exact HB.out | apply below_alloc | apply pw_below_drewN | apply below_drew1) | exact HB.out)⟩⟩
  case round =>
    clear H'
    try clear p2
    try clear c3
    obtain ⟨x0_1, x9_1, rfl, rfl, HA, HK1, HB⟩ := hrel
    cases gk with
    | zero => exact absurd HA.out (by simp [lombardref08_pays.l0])
    | succ k1 =>
      have H := HA.out
      clear HA
      simp only [lombardref08_pays.l0] at H
      have HC5 := Aside0.mk H
      clear H
      go_upto_region 2 with (fail)
      go_cut [18] (fun v18 wc => ∃ (kq : Nat) (x18_4 : Bool), v18 = .bool x18_4 ∧ Aside0 (lombardref08_pays.j1 kq x0_1 a1 a2 a3 x9_1 x18_4 = some r) ∧ Aside0 (kq ≤ k1) ∧ Aside0 (Below w.heap.size w wc))
      case first =>
        have H := HC5.out
        clear HC5
        by_cases c6 : x9_1 < a2
        · rw [if_pos c6] at H
          have c6b0 : decide (x9_1 < a2) = true := decide_eq_true c6
          clear c6
          (first | rw [c6b0] | (simp only [i64_w, i32_w]; rw [c6b0]) | skip)
          have H' := Aside0.mk H
          clear H
          go_wp2
          go_meet
          case rel => exact ⟨_, (decide (x0_1 > 0)), (by first | rfl | (simp; done) | (simp [*]; done)), H', ⟨by have := HK1.out; first | omega | exact Nat.le_refl _⟩, ⟨by repeat (first | (with_reducible first | exact HB.out | apply below_alloc | apply pw_below_drewN | apply below_drew1) | exact HB.out)⟩⟩
        · rw [if_neg c6] at H
          have c6b0 : decide (x9_1 < a2) = false := decide_eq_false c6
          clear c6
          (first | rw [c6b0] | (simp only [i64_w, i32_w]; rw [c6b0]) | skip)
          have H' := Aside0.mk H
          clear H
          go_wp2
          go_meet
          case rel => exact ⟨_, (false), (by first | rfl | (simp; done) | (simp [*]; done)), H', ⟨by have := HK1.out; first | omega | exact Nat.le_refl _⟩, ⟨by repeat (first | (with_reducible first | exact HB.out | apply below_alloc | apply pw_below_drewN | apply below_drew1) | exact HB.out)⟩⟩
      case rest =>
        clear HC5
        try clear p2
        try clear c3
        try clear c6
        try clear c6b0
        try clear p2
        obtain ⟨kq, x18_4, rfl, HA, HJ4, HB⟩ := hcut
        cases kq with
        | zero => exact absurd HA.out (by simp [lombardref08_pays.j1])
        | succ kj4 =>
          have H := HA.out
          clear HA
          simp only [lombardref08_pays.j1] at H
          by_cases c7 : x18_4 = true
          · subst c7
            have H1 : ((lombardref03_Interest.f x0_1 a1).bind fun bt214 => (if (wrap64 (x0_1 + (wrap64 (bt214.1 - a3)))) > 40000000000000 then (some false) else (lombardref08_pays.l0 kj4 (wrap64 (x0_1 + (wrap64 (bt214.1 - a3)))) a1 a2 a3 (wrap64 (x9_1 + 1))))) = some r := by rw [if_pos rfl] at H; exact H
            clear H
            have H := H1
            clear H1
            replace H := Option.bind_eq_some_iff.mp H
            obtain ⟨⟨t214, t215⟩, A80, H⟩ := H
            replace H : (if (wrap64 (x0_1 + (wrap64 (t214 - a3)))) > 40000000000000 then (some false) else (lombardref08_pays.l0 kj4 (wrap64 (x0_1 + (wrap64 (t214 - a3)))) a1 a2 a3 (wrap64 (x9_1 + 1)))) = some r := H
            have A8 := Aside0.mk A80
            clear A80
            by_cases c9 : (wrap64 (x0_1 + (wrap64 (t214 - a3)))) > 40000000000000
            · rw [if_pos c9] at H
              have c9b0 : decide (40000000000000 < (wrap64 (x0_1 + (wrap64 (t214 - a3))))) = true := decide_eq_true c9
              clear c9
              obtain rfl := Option.some.inj H
              go_wp2_with (first | ((with_reducible refine gate_callee (f := 30) rfl ?_); refine goesL_ (some 24) rfl rfl Try.func30 (by kernel_rfl) rfl #[.int .i64 x0_1, .int .i64 a1] rfl (by (try simp only [List.map_toArray, List.map_cons, List.map_nil]); first | done | rfl | (simp only [List.length_drop, List.length_take]; rfl)) ?_; (with_reducible refine (lombardref03_Interest.calls x0_1 a1 t214 t215 _ A8.out).mono ?_); rintro e w10 ⟨rfl, hb⟩; refine ⟨_, rfl, ?_⟩; have n0_ := Aside0.mk (below_step (by repeat (first | (with_reducible first | exact HB.out | apply below_alloc | apply pw_below_drewN | apply below_drew1) | exact HB.out)) hb); clear HB; have HB := n0_; clear n0_; (try clear hb); (try clear hb2); (try clear hk); (try clear hi)))
              go_ret
              exact ⟨by first | rfl | (simp [errW_none, errW_some] <;> rfl) | (simp [*, errW_none, errW_some] <;> rfl), by repeat (first | (with_reducible first | exact HB.out | apply below_alloc | apply pw_below_drewN | apply below_drew1) | exact HB.out)⟩
            · rw [if_neg c9] at H
              have c9b0 : decide (40000000000000 < (wrap64 (x0_1 + (wrap64 (t214 - a3))))) = false := decide_eq_false c9
              clear c9
              have H' := Aside0.mk H
              clear H
              go_wp2_with (first | ((with_reducible refine gate_callee (f := 30) rfl ?_); refine goesL_ (some 24) rfl rfl Try.func30 (by kernel_rfl) rfl #[.int .i64 x0_1, .int .i64 a1] rfl (by (try simp only [List.map_toArray, List.map_cons, List.map_nil]); first | done | rfl | (simp only [List.length_drop, List.length_take]; rfl)) ?_; (with_reducible refine (lombardref03_Interest.calls x0_1 a1 t214 t215 _ A8.out).mono ?_); rintro e w11 ⟨rfl, hb⟩; refine ⟨_, rfl, ?_⟩; have n0_ := Aside0.mk (below_step (by repeat (first | (with_reducible first | exact HB.out | apply below_alloc | apply pw_below_drewN | apply below_drew1) | exact HB.out)) hb); clear HB; have HB := n0_; clear n0_; (try clear hb); (try clear hb2); (try clear hk); (try clear hi)))
              go_roundg kj4
              case measure => have := HK1.out; have := HJ4.out; omega
              case rel => exact ⟨(wrap64 (x0_1 + (wrap64 (t214 - a3)))), (wrap64 (x9_1 + 1)), (by first | rfl | (simp; done) | (simp [*]; done)), (by first | rfl | (simp; done) | (simp [*]; done)), H', ⟨by have := HK1.out; have := HJ4.out; omega⟩, ⟨by repeat (first | (with_reducible first | exact HB.out | apply below_alloc | apply pw_below_drewN | apply below_drew1) | exact HB.out)⟩⟩
          · replace c7 := Bool.eq_false_iff.mpr c7
            subst c7
            have H1 : (some (decide (x0_1 ≤ 0))) = some r := by rw [if_neg (show ¬ (false = true) by decide)] at H; exact H
            clear H
            have H := H1
            clear H1
            obtain rfl := Option.some.inj H
            go_wp2
            go_ret
            exact ⟨by first | rfl | (simp [errW_none, errW_some] <;> rfl) | (simp [*, errW_none, errW_some] <;> rfl), by repeat (first | (with_reducible first | exact HB.out | apply below_alloc | apply pw_below_drewN | apply below_drew1) | exact HB.out)⟩

end Go.Proofs.Ytchpeobenlnemaa.S
end

section
namespace Go.Proofs.Ytchpeobenlnemaa.S
open Go.RowKit Go.Proofs.YtchpeobenlnemaaW.PrintWords Go.Proofs.YtchpeobenlnemaaW.PrintLast Go.Proofs.YtchpeobenlnemaaW.PrintMore
attribute [local go_sem] max2_int min2_int max_two min_two max_three min_three max_four min_four   -- for this text's walks alone
attribute [local go_sem] Go.Proofs.Ytchpeobenlnemaa.XWalk.cell2
set_option linter.unusedVariables false
set_option linter.unusedSimpArgs false

/-! ### lombardref08_Level: function 18 -/
mutual
def lombardref08_Level.j0 : Nat → Int → Int → Int → Bool → Option (Int × Int)
  | 0, _, _, _, _ => none
  | k + 1, x0, x1, x2, x31 => if x31 = true then (some (0, 2)) else ((lombardref08_pays.f k x0 x1 x2 0).bind fun t216 => (if t216 = true then (some (0, 0)) else (lombardref08_Level.l0 k x0 x1 x2 0 70368744177664)))
def lombardref08_Level.l0 : Nat → Int → Int → Int → Int → Int → Option (Int × Int)
  | 0, _, _, _, _, _ => none
  | k + 1, x0, x1, x2, x8, x9 => if x9 > 0 then ((lombardref08_pays.f k x0 x1 x2 (wrap64 (x8 + x9))).bind fun t217 => (if t217 = true then (lombardref08_Level.l0 k x0 x1 x2 x8 (wrap64 (Int.tdiv x9 2))) else (lombardref08_Level.l0 k x0 x1 x2 (wrap64 (x8 + x9)) (wrap64 (Int.tdiv x9 2))))) else (some (wrap64 (x8 + 1), 0))
end
def lombardref08_Level.f (k : Nat) (a0 : Int) (a1 : Int) (a2 : Int) : Option (Int × Int) := if a0 < 0 then (lombardref08_Level.j0 k a0 a1 a2 true) else (if a0 > 10000000000000 then (lombardref08_Level.j0 k a0 a1 a2 true) else (if a1 < 0 then (lombardref08_Level.j0 k a0 a1 a2 true) else (if a1 > 1000000000000 then (lombardref08_Level.j0 k a0 a1 a2 true) else (if a2 < 1 then (lombardref08_Level.j0 k a0 a1 a2 true) else (lombardref08_Level.j0 k a0 a1 a2 (decide (a2 > 600)))))))
set_option maxHeartbeats 8000000 in
set_option maxRecDepth 100000 in
theorem lombardref08_Level.calls (k : Nat) (a0 : Int) (a1 : Int) (a2 : Int) (r1 : Int) (r2 : Int) (w : World) (h : lombardref08_Level.f k a0 a1 a2 = some (r1, r2)) :
    Calls Try.prog 18 #[.int .i64 a0, .int .i64 a1, .int .i64 a2] w fun e w' => e = .returned (.tuple #[.int .i64 r1, .int .i64 r2]) ∧ Below w.heap.size w w' := by
  have HB := Aside0.mk (Below.refl w.heap.size w)
  have H : (if a0 < 0 then (lombardref08_Level.j0 k a0 a1 a2 true) else (if a0 > 10000000000000 then (lombardref08_Level.j0 k a0 a1 a2 true) else (if a1 < 0 then (lombardref08_Level.j0 k a0 a1 a2 true) else (if a1 > 1000000000000 then (lombardref08_Level.j0 k a0 a1 a2 true) else (if a2 < 1 then (lombardref08_Level.j0 k a0 a1 a2 true) else (lombardref08_Level.j0 k a0 a1 a2 (decide (a2 > 600)))))))) = some (r1, r2) := h
  clear h
  have HC4 := Aside0.mk H
  clear H
  go_enter Try.func18, Try.ntmps18
  go_upto_region 1 with (fail)
  go_cut [31] (fun v31 wc => ∃ (kq : Nat) (x31_3 : Bool), v31 = .bool x31_3 ∧ Aside0 (lombardref08_Level.j0 kq a0 a1 a2 x31_3 = some (r1, r2)) ∧ Aside0 (kq ≤ k) ∧ Aside0 (Below w.heap.size w wc))
  case first =>
    have H := HC4.out
    clear HC4
    by_cases c5 : a0 < 0
    · rw [if_pos c5] at H
      have c5b0 : decide (a0 < 0) = true := decide_eq_true c5
      clear c5
      (first | rw [c5b0] | (simp only [i64_w, i32_w]; rw [c5b0]) | skip)
      have H' := Aside0.mk H
      clear H
      go_wp2
      go_meet
      case rel => exact ⟨_, (true), (by first | rfl | (simp; done) | (simp [*]; done)), H', ⟨by first | omega | exact Nat.le_refl _⟩, ⟨by repeat (first | (with_reducible first | exact HB.out | apply below_alloc | apply pw_below_drewN | apply below_drew1) | exact HB.out)⟩⟩
    · rw [if_neg c5] at H
      have c5b0 : decide (a0 < 0) = false := decide_eq_false c5
      clear c5
      (first | rw [c5b0] | (simp only [i64_w, i32_w]; rw [c5b0]) | skip)
      by_cases c6 : a0 > 10000000000000
      · rw [if_pos c6] at H
        have c6b0 : decide (10000000000000 < a0) = true := decide_eq_true c6
        clear c6
        have H' := Aside0.mk H
        clear H
        go_wp2
        go_meet
        case rel => exact ⟨_, (true), (by first | rfl | (simp; done) | (simp [*]; done)), H', ⟨by first | omega | exact Nat.le_refl _⟩, ⟨by repeat (first | (with_reducible first | exact HB.out | apply below_alloc | apply pw_below_drewN | apply below_drew1) | exact HB.out)⟩⟩
      · rw [if_neg c6] at H
        have c6b0 : decide (10000000000000 < a0) = false := decide_eq_false c6
        clear c6
        by_cases c7 : a1 < 0
        · rw [if_pos c7] at H
          have c7b0 : decide (a1 < 0) = true := decide_eq_true c7
          clear c7
          have H' := Aside0.mk H
          clear H
          go_wp2
          go_meet
          case rel => exact ⟨_, (true), (by first | rfl | (simp; done) | (simp [*]; done)), H', ⟨by first | omega | exact Nat.le_refl _⟩, ⟨by repeat (first | (with_reducible first | exact HB.out | apply below_alloc | apply pw_below_drewN | apply below_drew1) | exact HB.out)⟩⟩
        · rw [if_neg c7] at H
          have c7b0 : decide (a1 < 0) = false := decide_eq_false c7
          clear c7
          by_cases c8 : a1 > 1000000000000
          · rw [if_pos c8] at H
            have c8b0 : decide (1000000000000 < a1) = true := decide_eq_true c8
            clear c8
            have H' := Aside0.mk H
            clear H
            go_wp2
            go_meet
            case rel => exact ⟨_, (true), (by first | rfl | (simp; done) | (simp [*]; done)), H', ⟨by first | omega | exact Nat.le_refl _⟩, ⟨by repeat (first | (with_reducible first | exact HB.out | apply below_alloc | apply pw_below_drewN | apply below_drew1) | exact HB.out)⟩⟩
          · rw [if_neg c8] at H
            have c8b0 : decide (1000000000000 < a1) = false := decide_eq_false c8
            clear c8
            by_cases c9 : a2 < 1
            · rw [if_pos c9] at H
              have c9b0 : decide (a2 < 1) = true := decide_eq_true c9
              clear c9
              have H' := Aside0.mk H
              clear H
              go_wp2
              go_meet
              case rel => exact ⟨_, (true), (by first | rfl | (simp; done) | (simp [*]; done)), H', ⟨by first | omega | exact Nat.le_refl _⟩, ⟨by repeat (first | (with_reducible first | exact HB.out | apply below_alloc | apply pw_below_drewN | apply below_drew1) | exact HB.out)⟩⟩
            · rw [if_neg c9] at H
              have c9b0 : decide (a2 < 1) = false := decide_eq_false c9
              clear c9
              have H' := Aside0.mk H
              clear H
              go_wp2
              go_meet
              case rel => exact ⟨_, (decide (a2 > 600)), (by first | rfl | (simp; done) | (simp [*]; done)), H', ⟨by first | omega | exact Nat.le_refl _⟩, ⟨by repeat (first | (with_reducible first | exact HB.out | apply below_alloc | apply pw_below_drewN | apply below_drew1) | exact HB.out)⟩⟩
  case rest =>
    clear HC4
    try clear c1
    try clear p2
    try clear c5
    try clear c5b0
    try clear c6
    try clear c6b0
    try clear c7
    try clear c7b0
    try clear c8
    try clear c8b0
    try clear c9
    try clear c9b0
    obtain ⟨kq, x31_3, rfl, HA, HJ3, HB⟩ := hcut
    cases kq with
    | zero => exact absurd HA.out (by simp [lombardref08_Level.j0])
    | succ kj3 =>
      have H := HA.out
      clear HA
      simp only [lombardref08_Level.j0] at H
      by_cases c10 : x31_3 = true
      · subst c10
        have H1 : (some (0, 2)) = some (r1, r2) := by rw [if_pos rfl] at H; exact H
        clear H
        have H := H1
        clear H1
        simp only [Option.some.injEq, Prod.mk.injEq] at H
        obtain ⟨rfl, rfl⟩ := H
        go_wp2
        go_ret2
        exact ⟨by first | rfl | (simp [errW_none, errW_some] <;> rfl) | (simp [*, errW_none, errW_some] <;> rfl), by repeat (first | (with_reducible first | exact HB.out | apply below_alloc | apply pw_below_drewN | apply below_drew1) | exact HB.out)⟩
      · replace c10 := Bool.eq_false_iff.mpr c10
        subst c10
        have H1 : ((lombardref08_pays.f kj3 a0 a1 a2 0).bind fun t216 => (if t216 = true then (some (0, 0)) else (lombardref08_Level.l0 kj3 a0 a1 a2 0 70368744177664))) = some (r1, r2) := by rw [if_neg (show ¬ (false = true) by decide)] at H; exact H
        clear H
        have H := H1
        clear H1
        replace H := Option.bind_eq_some_iff.mp H
        obtain ⟨t216, A110, H⟩ := H
        replace H : (if t216 = true then (some (0, 0)) else (lombardref08_Level.l0 kj3 a0 a1 a2 0 70368744177664)) = some (r1, r2) := H
        have A11 := Aside0.mk A110
        clear A110
        by_cases c12 : t216 = true
        · subst c12
          have H1 : (some (0, 0)) = some (r1, r2) := by rw [if_pos rfl] at H; exact H
          clear H
          have H := H1
          clear H1
          simp only [Option.some.injEq, Prod.mk.injEq] at H
          obtain ⟨rfl, rfl⟩ := H
          go_wp2_with (first | ((with_reducible refine gate_callee (f := 39) rfl ?_); refine goesL_ (some 35) rfl rfl Try.func39 (by kernel_rfl) rfl #[.int .i64 a0, .int .i64 a1, .int .i64 a2, .int .i64 0] rfl (by (try simp only [List.map_toArray, List.map_cons, List.map_nil]); first | done | rfl | (simp only [List.length_drop, List.length_take]; rfl)) ?_; (with_reducible refine (lombardref08_pays.calls kj3 a0 a1 a2 0 true _ A11.out).mono ?_); rintro e w13 ⟨rfl, hb⟩; refine ⟨_, rfl, ?_⟩; have n0_ := Aside0.mk (below_step (by repeat (first | (with_reducible first | exact HB.out | apply below_alloc | apply pw_below_drewN | apply below_drew1) | exact HB.out)) hb); clear HB; have HB := n0_; clear n0_; (try clear hb); (try clear hb2); (try clear hk); (try clear hi)))
          go_ret2
          exact ⟨by first | rfl | (simp [errW_none, errW_some] <;> rfl) | (simp [*, errW_none, errW_some] <;> rfl), by repeat (first | (with_reducible first | exact HB.out | apply below_alloc | apply pw_below_drewN | apply below_drew1) | exact HB.out)⟩
        · replace c12 := Bool.eq_false_iff.mpr c12
          subst c12
          have H1 : (lombardref08_Level.l0 kj3 a0 a1 a2 0 70368744177664) = some (r1, r2) := by rw [if_neg (show ¬ (false = true) by decide)] at H; exact H
          clear H
          have H := H1
          clear H1
          have H' := Aside0.mk H
          clear H
          go_wp2_with (first | ((with_reducible refine gate_callee (f := 39) rfl ?_); refine goesL_ (some 35) rfl rfl Try.func39 (by kernel_rfl) rfl #[.int .i64 a0, .int .i64 a1, .int .i64 a2, .int .i64 0] rfl (by (try simp only [List.map_toArray, List.map_cons, List.map_nil]); first | done | rfl | (simp only [List.length_drop, List.length_take]; rfl)) ?_; (with_reducible refine (lombardref08_pays.calls kj3 a0 a1 a2 0 false _ A11.out).mono ?_); rintro e w14 ⟨rfl, hb⟩; refine ⟨_, rfl, ?_⟩; have n0_ := Aside0.mk (below_step (by repeat (first | (with_reducible first | exact HB.out | apply below_alloc | apply pw_below_drewN | apply below_drew1) | exact HB.out)) hb); clear HB; have HB := n0_; clear n0_; (try clear hb); (try clear hb2); (try clear hk); (try clear hi)))
          go_loopg [8, 9] kj3 (fun kq v8 v9 w' => ∃ (x8_2 : Int) (x9_2 : Int), v8 = .int .i64 x8_2 ∧ v9 = .int .i64 x9_2 ∧ Aside0 (lombardref08_Level.l0 kq a0 a1 a2 x8_2 x9_2 = some (r1, r2)) ∧ Aside0 (kq ≤ kj3) ∧ Aside0 (Below w.heap.size w w'))
          case atStart => exact ⟨(0), (70368744177664), (by first | rfl | (simp; done) | (simp [*]; done)), (by first | rfl | (simp; done) | (simp [*]; done)), H', ⟨Nat.le_refl _⟩, ⟨by repeat (first | (with_reducible first | exact HB.out | apply below_alloc | apply pw_below_drewN | apply below_drew1) | exact HB.out)⟩⟩
          case round =>
            clear H'
            try clear c1
            try clear p2
            try clear c3
            try clear c5
            try clear c5b0
            try clear c6
            try clear c6b0
            try clear c7
            try clear c7b0
            try clear c8
            try clear c8b0
            try clear c9
            try clear c9b0
            try clear c10
            try clear c12
            try clear p2
            obtain ⟨x8_2, x9_2, rfl, rfl, HA, HK2, HB⟩ := hrel
            cases gk with
            | zero => exact absurd HA.out (by simp [lombardref08_Level.l0])
            | succ k2 =>
              have H := HA.out
              clear HA
              simp only [lombardref08_Level.l0] at H
              by_cases c15 : x9_2 > 0
              · rw [if_pos c15] at H
                have c15b0 : decide (0 < x9_2) = true := decide_eq_true c15
                clear c15
                replace H := Option.bind_eq_some_iff.mp H
                obtain ⟨t217, A160, H⟩ := H
                replace H : (if t217 = true then (lombardref08_Level.l0 k2 a0 a1 a2 x8_2 (wrap64 (Int.tdiv x9_2 2))) else (lombardref08_Level.l0 k2 a0 a1 a2 (wrap64 (x8_2 + x9_2)) (wrap64 (Int.tdiv x9_2 2)))) = some (r1, r2) := H
                have A16 := Aside0.mk A160
                clear A160
                by_cases c17 : t217 = true
                · subst c17
                  have H1 : (lombardref08_Level.l0 k2 a0 a1 a2 x8_2 (wrap64 (Int.tdiv x9_2 2))) = some (r1, r2) := by rw [if_pos rfl] at H; exact H
                  clear H
                  have H := H1
                  clear H1
                  have H' := Aside0.mk H
                  clear H
                  go_wp2_with (first | ((with_reducible refine gate_callee (f := 39) rfl ?_); refine goesL_ (some 46) rfl rfl Try.func39 (by kernel_rfl) rfl #[.int .i64 a0, .int .i64 a1, .int .i64 a2, .int .i64 (wrap64 (x8_2 + x9_2))] rfl (by (try simp only [List.map_toArray, List.map_cons, List.map_nil]); first | done | rfl | (simp only [List.length_drop, List.length_take]; rfl)) ?_; (with_reducible refine (lombardref08_pays.calls k2 a0 a1 a2 (wrap64 (x8_2 + x9_2)) true _ A16.out).mono ?_); rintro e w18 ⟨rfl, hb⟩; refine ⟨_, rfl, ?_⟩; have n0_ := Aside0.mk (below_step (by repeat (first | (with_reducible first | exact HB.out | apply below_alloc | apply pw_below_drewN | apply below_drew1) | exact HB.out)) hb); clear HB; have HB := n0_; clear n0_; (try clear hb); (try clear hb2); (try clear hk); (try clear hi)))
                  go_roundg k2
                  case measure => have := HJ3.out; have := HK2.out; omega
                  case rel => exact ⟨(x8_2), (wrap64 (Int.tdiv x9_2 2)), (by first | rfl | (simp; done) | (simp [*]; done)), (by first | rfl | (simp; done) | (simp [*]; done)), H', ⟨by have := HJ3.out; have := HK2.out; omega⟩, ⟨by repeat (first | (with_reducible first | exact HB.out | apply below_alloc | apply pw_below_drewN | apply below_drew1) | exact HB.out)⟩⟩
                · replace c17 := Bool.eq_false_iff.mpr c17
                  subst c17
                  have H1 : (lombardref08_Level.l0 k2 a0 a1 a2 (wrap64 (x8_2 + x9_2)) (wrap64 (Int.tdiv x9_2 2))) = some (r1, r2) := by rw [if_neg (show ¬ (false = true) by decide)] at H; exact H
                  clear H
                  have H := H1
                  clear H1
                  have H' := Aside0.mk H
                  clear H
                  go_wp2_with (first | ((with_reducible refine gate_callee (f := 39) rfl ?_); refine goesL_ (some 46) rfl rfl Try.func39 (by kernel_rfl) rfl #[.int .i64 a0, .int .i64 a1, .int .i64 a2, .int .i64 (wrap64 (x8_2 + x9_2))] rfl (by (try simp only [List.map_toArray, List.map_cons, List.map_nil]); first | done | rfl | (simp only [List.length_drop, List.length_take]; rfl)) ?_; (with_reducible refine (lombardref08_pays.calls k2 a0 a1 a2 (wrap64 (x8_2 + x9_2)) false _ A16.out).mono ?_); rintro e w19 ⟨rfl, hb⟩; refine ⟨_, rfl, ?_⟩; have n0_ := Aside0.mk (below_step (by repeat (first | (with_reducible first | exact HB.out | apply below_alloc | apply pw_below_drewN | apply below_drew1) | exact HB.out)) hb); clear HB; have HB := n0_; clear n0_; (try clear hb); (try clear hb2); (try clear hk); (try clear hi)))
                  go_roundg k2
                  case measure => have := HJ3.out; have := HK2.out; omega
                  case rel => exact ⟨(wrap64 (x8_2 + x9_2)), (wrap64 (Int.tdiv x9_2 2)), (by first | rfl | (simp; done) | (simp [*]; done)), (by first | rfl | (simp; done) | (simp [*]; done)), H', ⟨by have := HJ3.out; have := HK2.out; omega⟩, ⟨by repeat (first | (with_reducible first | exact HB.out | apply below_alloc | apply pw_below_drewN | apply below_drew1) | exact HB.out)⟩⟩
              · rw [if_neg c15] at H
                have c15b0 : decide (0 < x9_2) = false := decide_eq_false c15
                clear c15
                simp only [Option.some.injEq, Prod.mk.injEq] at H
                obtain ⟨rfl, rfl⟩ := H
                go_wp2
                go_ret2
                exact ⟨by first | rfl | (simp [errW_none, errW_some] <;> rfl) | (simp [*, errW_none, errW_some] <;> rfl), by repeat (first | (with_reducible first | exact HB.out | apply below_alloc | apply pw_below_drewN | apply below_drew1) | exact HB.out)⟩

end Go.Proofs.Ytchpeobenlnemaa.S
end

section
namespace Go.Proofs.Ytchpeobenlnemaa.S
open Go.RowKit Go.Proofs.YtchpeobenlnemaaW.PrintWords Go.Proofs.YtchpeobenlnemaaW.PrintLast Go.Proofs.YtchpeobenlnemaaW.PrintMore
attribute [local go_sem] max2_int min2_int max_two min_two max_three min_three max_four min_four   -- for this text's walks alone
attribute [local go_sem] Go.Proofs.Ytchpeobenlnemaa.XWalk.cell2
set_option linter.unusedVariables false
set_option linter.unusedSimpArgs false

/-! ### lombardlaw08_SchedLevels: function 4 -/
def lombardlaw08_SchedLevels.j0 : Nat → Int → Int → Int → Bool → Option (Bool)
  | 0, _, _, _, _ => none
  | k + 1, x0, x1, x2, x18 => if x18 = true then (some true) else ((sched_Level.f k x0 x1 x2).bind fun bt300 => ((lombardref08_Level.f k x0 x1 x2).bind fun bt302 => (if bt300.1 = bt302.1 then (some (bt300.2 == bt302.2)) else (some false))))
def lombardlaw08_SchedLevels.f (k : Nat) (a0 : Int) (a1 : Int) (a2 : Int) : Option (Bool) := (lombardlaw08_alive.f k).bind fun t299 => (if t299 = true then (if a2 > 100 then (lombardlaw08_SchedLevels.j0 k a0 a1 a2 (decide (a2 ≤ 600))) else (lombardlaw08_SchedLevels.j0 k a0 a1 a2 false)) else (some false))
set_option maxHeartbeats 8000000 in
set_option maxRecDepth 100000 in
theorem lombardlaw08_SchedLevels.calls (k : Nat) (a0 : Int) (a1 : Int) (a2 : Int) (r : Bool) (w : World) (h : lombardlaw08_SchedLevels.f k a0 a1 a2 = some r) :
    Calls Try.prog 4 #[.int .i64 a0, .int .i64 a1, .int .i64 a2] w fun e w' => e = .returned (.bool r) ∧ Below w.heap.size w w' := by
  have HB := Aside0.mk (Below.refl w.heap.size w)
  have H : ((lombardlaw08_alive.f k).bind fun t299 => (if t299 = true then (if a2 > 100 then (lombardlaw08_SchedLevels.j0 k a0 a1 a2 (decide (a2 ≤ 600))) else (lombardlaw08_SchedLevels.j0 k a0 a1 a2 false)) else (some false))) = some r := h
  clear h
  replace H := Option.bind_eq_some_iff.mp H
  obtain ⟨t299, A40, H⟩ := H
  replace H : (if t299 = true then (if a2 > 100 then (lombardlaw08_SchedLevels.j0 k a0 a1 a2 (decide (a2 ≤ 600))) else (lombardlaw08_SchedLevels.j0 k a0 a1 a2 false)) else (some false)) = some r := H
  have A4 := Aside0.mk A40
  clear A40
  by_cases c5 : t299 = true
  · subst c5
    have H1 : (if a2 > 100 then (lombardlaw08_SchedLevels.j0 k a0 a1 a2 (decide (a2 ≤ 600))) else (lombardlaw08_SchedLevels.j0 k a0 a1 a2 false)) = some r := by rw [if_pos rfl] at H; exact H
    clear H
    have H := H1
    clear H1
    have HC6 := Aside0.mk H
    clear H
    go_enter Try.func4, Try.ntmps4
    go_upto_region 3 with (first | ((with_reducible refine gate_callee (f := 9) rfl ?_); refine goesL_ (some 11) rfl rfl Try.func9 (by kernel_rfl) rfl #[] rfl (by (try simp only [List.map_toArray, List.map_cons, List.map_nil]); first | done | rfl | (simp only [List.length_drop, List.length_take]; rfl)) ?_; (with_reducible refine (lombardlaw08_alive.calls k  true _ A4.out).mono ?_); rintro e w7 ⟨rfl, hb⟩; refine ⟨_, rfl, ?_⟩; have n0_ := Aside0.mk (below_step (by repeat (first | (with_reducible first | exact HB.out | apply below_alloc | apply pw_below_drewN | apply below_drew1) | exact HB.out)) hb); clear HB; have HB := n0_; clear n0_; (try clear hb); (try clear hb2); (try clear hk); (try clear hi)))
    (try simp only [Act.put, List.setIfInBounds_toArray, List.set_cons_zero, List.set_cons_succ])
    go_cut [18] (fun v18 wc => ∃ (kq : Nat) (x18_5 : Bool), v18 = .bool x18_5 ∧ Aside0 (lombardlaw08_SchedLevels.j0 kq a0 a1 a2 x18_5 = some r) ∧ Aside0 (kq ≤ k) ∧ Aside0 (Below w.heap.size w wc))
    case first =>
      have H := HC6.out
      clear HC6
      by_cases c8 : a2 > 100
      · rw [if_pos c8] at H
        have c8b0 : decide (100 < a2) = true := decide_eq_true c8
        clear c8
        (first | rw [c8b0] | (simp only [i64_w, i32_w]; rw [c8b0]) | skip)
        have H' := Aside0.mk H
        clear H
        go_wp2
        go_meet
        case rel => exact ⟨_, (decide (a2 ≤ 600)), (by first | rfl | (simp; done) | (simp [*]; done)), H', ⟨by first | omega | exact Nat.le_refl _⟩, ⟨by repeat (first | (with_reducible first | exact HB.out | apply below_alloc | apply pw_below_drewN | apply below_drew1) | exact HB.out)⟩⟩
      · rw [if_neg c8] at H
        have c8b0 : decide (100 < a2) = false := decide_eq_false c8
        clear c8
        (first | rw [c8b0] | (simp only [i64_w, i32_w]; rw [c8b0]) | skip)
        have H' := Aside0.mk H
        clear H
        go_wp2
        go_meet
        case rel => exact ⟨_, (false), (by first | rfl | (simp; done) | (simp [*]; done)), H', ⟨by first | omega | exact Nat.le_refl _⟩, ⟨by repeat (first | (with_reducible first | exact HB.out | apply below_alloc | apply pw_below_drewN | apply below_drew1) | exact HB.out)⟩⟩
    case rest =>
      clear HC6
      try clear p2
      try clear c4
      try clear c5
      try clear c8
      try clear c8b0
      obtain ⟨kq, x18_5, rfl, HA, HJ5, HB⟩ := hcut
      cases kq with
      | zero => exact absurd HA.out (by simp [lombardlaw08_SchedLevels.j0])
      | succ kj5 =>
        have H := HA.out
        clear HA
        simp only [lombardlaw08_SchedLevels.j0] at H
        by_cases c9 : x18_5 = true
        · subst c9
          have H1 : (some true) = some r := by rw [if_pos rfl] at H; exact H
          clear H
          have H := H1
          clear H1
          obtain rfl := Option.some.inj H
          go_wp2
          go_ret
          exact ⟨by first | rfl | (simp [errW_none, errW_some] <;> rfl) | (simp [*, errW_none, errW_some] <;> rfl), by repeat (first | (with_reducible first | exact HB.out | apply below_alloc | apply pw_below_drewN | apply below_drew1) | exact HB.out)⟩
        · replace c9 := Bool.eq_false_iff.mpr c9
          subst c9
          have H1 : ((sched_Level.f kj5 a0 a1 a2).bind fun bt300 => ((lombardref08_Level.f kj5 a0 a1 a2).bind fun bt302 => (if bt300.1 = bt302.1 then (some (bt300.2 == bt302.2)) else (some false)))) = some r := by rw [if_neg (show ¬ (false = true) by decide)] at H; exact H
          clear H
          have H := H1
          clear H1
          replace H := Option.bind_eq_some_iff.mp H
          obtain ⟨⟨t300, t301⟩, A100, H⟩ := H
          replace H : ((lombardref08_Level.f kj5 a0 a1 a2).bind fun bt302 => (if t300 = bt302.1 then (some (t301 == bt302.2)) else (some false))) = some r := H
          have A10 := Aside0.mk A100
          clear A100
          replace H := Option.bind_eq_some_iff.mp H
          obtain ⟨⟨t302, t303⟩, A110, H⟩ := H
          replace H : (if t300 = t302 then (some (t301 == t303)) else (some false)) = some r := H
          have A11 := Aside0.mk A110
          clear A110
          have HC12 := Aside0.mk H
          clear H
          go_upto_region 7 with (first | ((with_reducible refine gate_callee (f := 17) rfl ?_); refine goesL_ (some 23) rfl rfl Try.func17 (by kernel_rfl) rfl #[.int .i64 a0, .int .i64 a1, .int .i64 a2] rfl (by (try simp only [List.map_toArray, List.map_cons, List.map_nil]); first | done | rfl | (simp only [List.length_drop, List.length_take]; rfl)) ?_; (with_reducible refine (sched_Level.calls kj5 a0 a1 a2 t300 t301 _ A10.out).mono ?_); rintro e w13 ⟨rfl, hb⟩; refine ⟨_, rfl, ?_⟩; have n0_ := Aside0.mk (below_step (by repeat (first | (with_reducible first | exact HB.out | apply below_alloc | apply pw_below_drewN | apply below_drew1) | exact HB.out)) hb); clear HB; have HB := n0_; clear n0_; (try clear hb); (try clear hb2); (try clear hk); (try clear hi)) | ((with_reducible refine gate_callee (f := 18) rfl ?_); refine goesL_ (some 30) rfl rfl Try.func18 (by kernel_rfl) rfl #[.int .i64 a0, .int .i64 a1, .int .i64 a2] rfl (by (try simp only [List.map_toArray, List.map_cons, List.map_nil]); first | done | rfl | (simp only [List.length_drop, List.length_take]; rfl)) ?_; (with_reducible refine (lombardref08_Level.calls kj5 a0 a1 a2 t302 t303 _ A11.out).mono ?_); rintro e w14 ⟨rfl, hb⟩; refine ⟨_, rfl, ?_⟩; have n0_ := Aside0.mk (below_step (by repeat (first | (with_reducible first | exact HB.out | apply below_alloc | apply pw_below_drewN | apply below_drew1) | exact HB.out)) hb); clear HB; have HB := n0_; clear n0_; (try clear hb); (try clear hb2); (try clear hk); (try clear hi)))
          have H := HC12.out
          clear HC12
          by_cases c15 : t300 = t302
          · rw [if_pos c15] at H
            have c15b0 : (t300 == t302) = true := beq_iff_eq.mpr c15
            have c15b1 : (t300 != t302) = false := bne_eq_false_iff_eq.mpr c15
            clear c15
            obtain rfl := Option.some.inj H
            go_wp2
            go_ret
            exact ⟨by first | rfl | (simp [errW_none, errW_some] <;> rfl) | (simp [*, errW_none, errW_some] <;> rfl), by repeat (first | (with_reducible first | exact HB.out | apply below_alloc | apply pw_below_drewN | apply below_drew1) | exact HB.out)⟩
          · rw [if_neg c15] at H
            have c15b0 : (t300 == t302) = false := beq_eq_false_iff_ne.mpr c15
            have c15b1 : (t300 != t302) = true := bne_iff_ne.mpr c15
            obtain rfl := Option.some.inj H
            go_wp2
            go_ret
            exact ⟨by first | rfl | (simp [errW_none, errW_some] <;> rfl) | (simp [*, errW_none, errW_some] <;> rfl), by repeat (first | (with_reducible first | exact HB.out | apply below_alloc | apply pw_below_drewN | apply below_drew1) | exact HB.out)⟩
  · replace c5 := Bool.eq_false_iff.mpr c5
    subst c5
    have H1 : (some false) = some r := by rw [if_neg (show ¬ (false = true) by decide)] at H; exact H
    clear H
    have H := H1
    clear H1
    obtain rfl := Option.some.inj H
    go_enter Try.func4, Try.ntmps4
    go_wp2_with (first | ((with_reducible refine gate_callee (f := 9) rfl ?_); refine goesL_ (some 11) rfl rfl Try.func9 (by kernel_rfl) rfl #[] rfl (by (try simp only [List.map_toArray, List.map_cons, List.map_nil]); first | done | rfl | (simp only [List.length_drop, List.length_take]; rfl)) ?_; (with_reducible refine (lombardlaw08_alive.calls k  false _ A4.out).mono ?_); rintro e w16 ⟨rfl, hb⟩; refine ⟨_, rfl, ?_⟩; have n0_ := Aside0.mk (below_step (by repeat (first | (with_reducible first | exact HB.out | apply below_alloc | apply pw_below_drewN | apply below_drew1) | exact HB.out)) hb); clear HB; have HB := n0_; clear n0_; (try clear hb); (try clear hb2); (try clear hk); (try clear hi)))
    go_ret
    exact ⟨by first | rfl | (simp [errW_none, errW_some] <;> rfl) | (simp [*, errW_none, errW_some] <;> rfl), by repeat (first | (with_reducible first | exact HB.out | apply below_alloc | apply pw_below_drewN | apply below_drew1) | exact HB.out)⟩

/-- THE ONE PURE STATEMENT of lombardlaw08_SchedLevels: yours. -/
def lombardlaw08_SchedLevels.Pure : Prop := ∀ (a0 : Int) (a1 : Int) (a2 : Int), (Lit.int .i64 a0).wf = true → (Lit.int .i64 a1).wf = true → (Lit.int .i64 a2).wf = true → ∃ k, lombardlaw08_SchedLevels.f k a0 a1 a2 = some true
theorem lombardlaw08_SchedLevels.walk (P : lombardlaw08_SchedLevels.Pure) (a0 : Int) (a1 : Int) (a2 : Int) (w : World) (w0 : (Lit.int .i64 a0).wf = true) (w1 : (Lit.int .i64 a1).wf = true) (w2 : (Lit.int .i64 a2).wf = true) :
    Calls Try.prog 4 #[.int .i64 a0, .int .i64 a1, .int .i64 a2] w fun e w' => e = .returned (.bool true) ∧ Below w.heap.size w w' := by
  obtain ⟨k, h⟩ := P a0 a1 a2 w0 w1 w2
  refine (lombardlaw08_SchedLevels.calls k a0 a1 a2 true w h).mono ?_
  rintro e w' ⟨rfl, hd⟩
  exact ⟨rfl, hd⟩

end Go.Proofs.Ytchpeobenlnemaa.S
end

section
namespace Go.Proofs.Ytchpeobenlnemaa.Rnd
set_option linter.unusedVariables false
set_option linter.unusedSimpArgs false

/-- A over b rounded to the nearer whole number, to the even one of two; b above 0. -/
def near (A b : Int) : Int := if 2 * (A % b) > b ∨ 2 * (A % b) = b ∧ (A / b) % 2 = 1 then A / b + 1 else A / b

theorem div_split (A b : Int) (hb : 0 < b) : A = b * (A / b) + A % b ∧ 0 ≤ A % b ∧ A % b < b :=
  ⟨(Int.mul_ediv_add_emod A b).symm, Int.emod_nonneg A (by omega), Int.emod_lt_of_pos A hb⟩

theorem near_spec {A b : Int} (hb : 0 < b) : 2 * (b * near A b) ≤ 2 * A + b ∧ 2 * A ≤ 2 * (b * near A b) + b ∧
    (2 * (b * near A b) = 2 * A + b ∨ 2 * A = 2 * (b * near A b) + b → near A b % 2 = 0) := by
  obtain ⟨h, h0, h1⟩ := div_split A b hb
  unfold near
  generalize A % b = r at *
  generalize A / b = q at *
  split
  · rw [Int.mul_add, Int.mul_one]
    generalize b * q = m at *
    refine ⟨by omega, by omega, by omega⟩
  · generalize b * q = m at *
    refine ⟨by omega, by omega, by omega⟩

theorem mul_step {b N M : Int} (hb : 0 < b) (h : N < M) : b * N + b ≤ b * M := by
  have : b * (N + 1) ≤ b * M := Int.mul_le_mul_of_nonneg_left (by omega) (by omega)
  rw [Int.mul_add, Int.mul_one] at this
  exact this

theorem near_mono {A A' b : Int} (hb : 0 < b) (h : A ≤ A') : near A b ≤ near A' b := by
  obtain ⟨a1, a2, a3⟩ := near_spec (A := A) hb
  obtain ⟨b1, b2, b3⟩ := near_spec (A := A') hb
  generalize near A b = N at *
  generalize near A' b = M at *
  by_cases c : N ≤ M
  · exact c
  have s := mul_step hb (show M < N by omega)
  have s2 : M + 2 ≤ N → b * M + 2 * b ≤ b * N := fun h => by
    have := mul_step hb (show M < M + 1 by omega)
    have := mul_step hb (show M + 1 < N by omega)
    omega
  by_cases d : M + 2 ≤ N
  · have := s2 d
    omega
  have e : N = M + 1 := by omega
  subst e
  rw [Int.mul_add, Int.mul_one] at *
  omega

theorem near_uniq {A b N : Int} (hb : 0 < b) (h1 : 2 * (b * N) ≤ 2 * A + b) (h2 : 2 * A ≤ 2 * (b * N) + b)
    (h3 : 2 * (b * N) = 2 * A + b ∨ 2 * A = 2 * (b * N) + b → N % 2 = 0) : near A b = N := by
  obtain ⟨a1, a2, a3⟩ := near_spec (A := A) hb
  generalize near A b = M at *
  rcases Int.lt_trichotomy M N with c | c | c
  · have s := mul_step hb c
    by_cases d : M + 2 ≤ N
    · have := mul_step hb (show M < M + 1 by omega)
      have := mul_step hb (show M + 1 < N by omega)
      omega
    have e : N = M + 1 := by omega
    subst e
    rw [Int.mul_add, Int.mul_one] at *
    omega
  · exact c
  · have s := mul_step hb c
    by_cases d : N + 2 ≤ M
    · have := mul_step hb (show N < N + 1 by omega)
      have := mul_step hb (show N + 1 < M by omega)
      omega
    have e : M = N + 1 := by omega
    subst e
    rw [Int.mul_add, Int.mul_one] at *
    omega

theorem near_neg {A b : Int} (hb : 0 < b) : near (-A) b = -near A b := by
  obtain ⟨a1, a2, a3⟩ := near_spec (A := A) hb
  have e : b * -near A b = -(b * near A b) := Int.mul_neg _ _
  refine near_uniq hb ?_ ?_ ?_ <;> rw [e] <;> omega

theorem near_exact {b N : Int} (hb : 0 < b) : near (b * N) b = N := near_uniq hb (by omega) (by omega) (by omega)

/-- the quotient: way 0 downwards, way 1 to the nearer one -/
def rnd (A b way : Int) : Int := if way = 0 then (if b < 0 then (-A) / (-b) else A / b) else (if b < 0 then near (-A) (-b) else near A b)

theorem floor_neg {X b : Int} (hb : 0 < b) : (-X) / b = -(X / b + if X % b > 0 then 1 else 0) := by
  obtain ⟨h, h0, h1⟩ := div_split X b hb
  obtain ⟨g, g0, g1⟩ := div_split (-X) b hb
  generalize X % b = r at *
  generalize X / b = q at *
  generalize (-X) % b = r' at *
  generalize (-X) / b = q' at *
  -- b q' + r' = -(b q + r)
  split
  · rcases Int.lt_trichotomy q' (-(q + 1)) with c | c | c
    · have := mul_step hb c
      rw [Int.mul_neg, Int.mul_add, Int.mul_one] at this
      omega
    · omega
    · have := mul_step hb c
      rw [Int.mul_neg, Int.mul_add, Int.mul_one] at this
      omega
  · rcases Int.lt_trichotomy q' (-q) with c | c | c
    · have := mul_step hb c
      rw [Int.mul_neg] at this
      omega
    · omega
    · have := mul_step hb c
      rw [Int.mul_neg] at this
      omega

/-- whether the size of a quotient is rounded up -/
def upf (way X y : Int) (less : Bool) : Bool := if way = 0 then less && decide (X % y > 0) else decide (2 * (X % y) > y ∨ 2 * (X % y) = y ∧ (X / y) % 2 = 1)
/-- by sizes and signs, as the code does it -/
theorem rnd_sizes {A b way X y : Int} (hw : way = 0 ∨ way = 1) (hb : b ≠ 0) (hX : X = if A < 0 then -A else A) (hy : y = if b < 0 then -b else b) :
    rnd A b way = if (decide (A < 0) != decide (b < 0)) = true then -(X / y + (if upf way X y (decide (A < 0) != decide (b < 0)) = true then 1 else 0)) else X / y + (if upf way X y (decide (A < 0) != decide (b < 0)) = true then 1 else 0) := by
  unfold upf
  have hy0 : 0 < y := by subst hy; split <;> omega
  have hX0 : 0 ≤ X := by subst hX; split <;> omega
  rcases hw with rfl | rfl
  · unfold rnd
    rw [if_pos rfl]
    simp only [if_true]
    by_cases c : A < 0
    · rw [if_pos c] at hX
      by_cases d : b < 0
      · rw [if_pos d] at hy ⊢
        rw [decide_eq_true c, decide_eq_true d, ← hX, ← hy]
        simp
      · rw [if_neg d] at hy ⊢
        rw [decide_eq_true c, decide_eq_false d, ← hy]
        have : A = -X := by omega
        rw [this, floor_neg hy0]
        simp
    · rw [if_neg c] at hX
      by_cases d : b < 0
      · rw [if_pos d] at hy ⊢
        rw [decide_eq_false c, decide_eq_true d, ← hX, ← hy, floor_neg hy0]
        simp
      · rw [if_neg d] at hy ⊢
        rw [decide_eq_false c, decide_eq_false d, ← hX, ← hy]
        simp
  · unfold rnd
    rw [if_neg (by omega)]
    simp only [show ((1 : Int) = 0) = False by simp, if_false]
    have hn : (X / y + if decide (2 * (X % y) > y ∨ 2 * (X % y) = y ∧ X / y % 2 = 1) = true then 1 else 0) = near X y := by
      unfold near
      simp only [decide_eq_true_eq]
      split <;> omega
    rw [hn]
    by_cases c : A < 0
    · rw [if_pos c] at hX
      by_cases d : b < 0
      · rw [if_pos d] at hy ⊢
        rw [decide_eq_true c, decide_eq_true d, ← hX, ← hy]
        simp
      · rw [if_neg d] at hy ⊢
        rw [decide_eq_true c, decide_eq_false d, ← hy]
        have : A = -X := by omega
        rw [this, near_neg hy0]
        simp
    · rw [if_neg c] at hX
      by_cases d : b < 0
      · rw [if_pos d] at hy ⊢
        rw [decide_eq_false c, decide_eq_true d, ← hX, ← hy, near_neg hy0]
        simp
      · rw [if_neg d] at hy ⊢
        rw [decide_eq_false c, decide_eq_false d, ← hX, ← hy]
        simp
end Go.Proofs.Ytchpeobenlnemaa.Rnd
end

section
namespace Go.Proofs.Ytchpeobenlnemaa.XWide
set_option linter.unusedVariables false
set_option linter.unusedSimpArgs false
open Go.RowKit Go.Proofs.Ytchpeobenlnemaa.S Go.Proofs.Ytchpeobenlnemaa.XNum Go.Proofs.Ytchpeobenlnemaa.XBits Go.Proofs.Ytchpeobenlnemaa.Rnd Go.Proofs.YtchpeobenlnemaaW.PrintWords

abbrev I64 (n : Int) : Prop := -9223372036854775808 ≤ n ∧ n ≤ 9223372036854775807
abbrev U64 (n : Int) : Prop := 0 ≤ n ∧ n < 18446744073709551616

theorem and_ones {b : Int} (hb : I64 b) : Go.bits .and .i64 (-1) b = b := by
  show IntKind.i64.wrap (((BitVec.ofInt 64 (-1) &&& BitVec.ofInt 64 b).toNat : Nat) : Int) = b
  have e : BitVec.ofInt 64 (-1) = BitVec.allOnes 64 := by decide
  rw [e, BitVec.allOnes_and, BitVec.toNat_ofInt]
  simp only [IntKind.wrap, IntKind.bits, IntKind.signed, if_true]
  have := hb.1
  have := hb.2
  simp
  omega
theorem and_none (b : Int) : Go.bits .and .i64 0 b = 0 := by
  show IntKind.i64.wrap (((BitVec.ofInt 64 0 &&& BitVec.ofInt 64 b).toNat : Nat) : Int) = 0
  have e : BitVec.ofInt 64 0 = 0#64 := by decide
  rw [e, BitVec.zero_and]
  decide
theorem and1 {x : Int} (h0 : 0 ≤ x) (h1 : x < 18446744073709551616) : Go.bits .and .u64 x 1 = x % 2 := bits_mask .u64 64 (by decide) wraps_u64 1 (by decide) x h0 h1

theorem mul_bd {a b C D : Int} (ha : -C ≤ a) (ha' : a ≤ C) (hb : -D ≤ b) (hb' : b ≤ D) : -(C * D) ≤ a * b ∧ a * b ≤ C * D := by
  have e : (a * b).natAbs ≤ C.natAbs * D.natAbs := by
    rw [Int.natAbs_mul]
    exact Nat.mul_le_mul (by omega) (by omega)
  have f : C * D = ((C.natAbs * D.natAbs : Nat) : Int) := by
    rw [Int.natCast_mul, Int.natAbs_of_nonneg (by omega), Int.natAbs_of_nonneg (by omega)]
  rw [f]
  omega
theorem mul_i64 {a b : Int} (ha : I64 a) (hb : I64 b) : -85070591730234615865843651857942052864 ≤ a * b ∧ a * b ≤ 85070591730234615865843651857942052864 := by
  have := mul_bd (C := 9223372036854775808) (D := 9223372036854775808) (a := a) (b := b) (by have := ha.1; omega) (by have := ha.2; omega) (by have := hb.1; omega) (by have := hb.2; omega)
  omega

theorem mul {a b : Int} (ha : I64 a) (hb : I64 b) : wide_Mul.f a b = some (a * b / 18446744073709551616, a * b % 18446744073709551616) := by
  have hm := mul_i64 ha hb
  obtain ⟨a0, a1⟩ := ha
  obtain ⟨b0, b1⟩ := hb
  unfold wide_Mul.f
  rw [wu a, wu b, mul64 (by omega) (by omega) (by omega) (by omega)]
  simp only [Option.bind_some]
  by_cases ca : a < 0
  · rw [show a / 9223372036854775808 = -1 by omega, and_ones ⟨b0, b1⟩, show a % 18446744073709551616 = a + 18446744073709551616 by omega]
    by_cases cb : b < 0
    · rw [show b / 9223372036854775808 = -1 by omega, and_ones ⟨a0, a1⟩, show b % 18446744073709551616 = b + 18446744073709551616 by omega]
      have e : (a + 18446744073709551616) * (b + 18446744073709551616) = a * b + a * 18446744073709551616 + b * 18446744073709551616 + 18446744073709551616 * 18446744073709551616 := by grind
      rw [e]
      unfold wrap64
      generalize a * b = m at *
      congr 2 <;> omega
    · rw [show b / 9223372036854775808 = 0 by omega, and_none, show b % 18446744073709551616 = b by omega]
      have e : (a + 18446744073709551616) * b = a * b + b * 18446744073709551616 := by grind
      rw [e]
      unfold wrap64
      generalize a * b = m at *
      congr 2 <;> omega
  · rw [show a / 9223372036854775808 = 0 by omega, and_none, show a % 18446744073709551616 = a by omega]
    by_cases cb : b < 0
    · rw [show b / 9223372036854775808 = -1 by omega, and_ones ⟨a0, a1⟩, show b % 18446744073709551616 = b + 18446744073709551616 by omega]
      have e : a * (b + 18446744073709551616) = a * b + a * 18446744073709551616 := by grind
      rw [e]
      unfold wrap64
      generalize a * b = m at *
      congr 2 <;> omega
    · rw [show b / 9223372036854775808 = 0 by omega, and_none, show b % 18446744073709551616 = b by omega]
      unfold wrap64
      generalize a * b = m at *
      congr 2 <;> omega

theorem turned {hi lo : Int} (h : I64 hi) (l : U64 lo) : ∃ h' l', wide_turned.f hi lo = some (h', l') ∧ I64 h' ∧ U64 l' ∧
    (h' % 18446744073709551616) * 18446744073709551616 + l' = (-(hi * 18446744073709551616 + lo)) % 340282366920938463463374607431768211456 := by
  obtain ⟨h0, h1⟩ := h
  obtain ⟨l0, l1⟩ := l
  unfold wide_turned.f
  rw [if_pos l0, if_pos l1]
  refine ⟨_, _, rfl, ?_, ?_, ?_⟩
  · unfold wrap64
    omega
  · unfold XWalk.d64
    omega
  · unfold wrap64 XWalk.b64 XWalk.d64
    split <;> omega

/-- A quotient, or the error. -/
def mdiv (A b way : Int) : Int × Int :=
  if way < 0 ∨ way ≥ 2 then (0, 2) else if b = 0 then (0, 4) else if -9223372036854775808 ≤ rnd A b way ∧ rnd A b way ≤ 9223372036854775807 then (rnd A b way, 0) else (0, 3)

/-- what is told of a quotient without its sign -/
def toldQ (Q : Int) (less : Bool) : Int × Int := if less = true then (if Q ≤ 9223372036854775808 then (-Q, 0) else (0, 3)) else (if Q < 9223372036854775808 then (Q, 0) else (0, 3))

theorem j3_told {h l rest by_ : Int} {less : Bool} (h0 : 0 ≤ h) (l0 : 0 ≤ l) (l1 : l < 18446744073709551616) (k : Nat) : wide_Div.j3 (k + 2) h l rest by_ less = some (toldQ (h * 18446744073709551616 + l) less) := by
  simp only [wide_Div.j3]
  unfold toldQ
  by_cases c : h > 0
  · rw [if_pos c, if_neg (c := h * 18446744073709551616 + l ≤ _) (by omega), if_neg (c := h * 18446744073709551616 + l < _) (by omega)]
    simp
  · rw [if_neg c, show h * 18446744073709551616 + l = l by omega]
    cases less
    · simp only [wide_Div.j4, Bool.false_eq_true, if_false]
      split
      · rw [w64 (by omega) (by omega)]
      · rfl
    · simp only [wide_Div.j4, if_true]
      by_cases d : l ≤ 9223372036854775808
      · rw [decide_eq_true d, if_pos d]
        simp only [if_true]
        congr 2
        rw [wu]
        unfold wrap64
        omega
      · rw [decide_eq_false d, if_neg d]
        simp

theorem j5_told {h l rest by_ : Int} {less : Bool} (h0 : 0 ≤ h) (l0 : 0 ≤ l) (l1 : l < 18446744073709551616) (k : Nat) : wide_Div.j5 (k + 2) h l rest by_ less = some (toldQ (h * 18446744073709551616 + l) less) := by
  simp only [wide_Div.j5]
  unfold toldQ
  by_cases c : h > 0
  · rw [if_pos c, if_neg (c := h * 18446744073709551616 + l ≤ _) (by omega), if_neg (c := h * 18446744073709551616 + l < _) (by omega)]
    simp
  · rw [if_neg c, show h * 18446744073709551616 + l = l by omega]
    cases less
    · simp only [wide_Div.j6, Bool.false_eq_true, if_false]
      split
      · rw [w64 (by omega) (by omega)]
      · rfl
    · simp only [wide_Div.j6, if_true]
      by_cases d : l ≤ 9223372036854775808
      · rw [decide_eq_true d, if_pos d]
        simp only [if_true]
        congr 2
        rw [wu]
        unfold wrap64
        omega
      · rw [decide_eq_false d, if_neg d]
        simp

theorem near_told {q0 lo rest y : Int} {less : Bool} (r0 : 0 ≤ rest) (r1 : rest < y) (y1 : y < 18446744073709551616) (l0 : 0 ≤ lo) (l1 : lo < 18446744073709551616) :
    wide_quotient_near.f q0 lo rest y less = some (decide (2 * rest > y ∨ 2 * rest = y ∧ lo % 2 = 1)) := by
  unfold wide_quotient_near.f
  by_cases c : rest / 9223372036854775808 = 1
  · rw [if_pos c, decide_eq_true (by omega)]
  · rw [if_neg c, wu_id (n := rest * 2) (by omega) (by omega), and1 l0 l1]
    by_cases d : rest * 2 > y
    · rw [if_pos d, decide_eq_true (by omega)]
    · rw [if_neg d]
      by_cases e : rest * 2 = y
      · rw [if_pos e]
        congr 1
        rw [Bool.eq_iff_iff, beq_iff_eq, decide_eq_true_iff]
        omega
      · rw [if_neg e, decide_eq_false (by omega)]

/-- what is told of the sizes, by the law of sizes and signs -/
theorem told_rnd {A b way X y : Int} (hw : way = 0 ∨ way = 1) (hb : b ≠ 0) (hX : X = if A < 0 then -A else A) (hy : y = if b < 0 then -b else b) :
    toldQ (X / y + if upf way X y (decide (A < 0) != decide (b < 0)) = true then 1 else 0) (decide (A < 0) != decide (b < 0)) = mdiv A b way := by
  have this := rnd_sizes hw hb hX hy
  have hy0 : 0 < y := by subst hy; split <;> omega
  have hX0 : 0 ≤ X := by subst hX; split <;> omega
  have q0 : 0 ≤ X / y := Int.ediv_nonneg hX0 (by omega)
  unfold mdiv
  rw [if_neg (c := way < 0 ∨ way ≥ 2) (by omega), if_neg hb, this]
  generalize upf way X y (decide (A < 0) != decide (b < 0)) = up
  generalize (decide (A < 0) != decide (b < 0)) = less
  have p0 : 0 ≤ X / y + if up = true then (1 : Int) else 0 := by
    split <;> omega
  generalize (X / y + if up = true then (1 : Int) else 0) = Q at *
  unfold toldQ
  cases less
  · simp only [Bool.false_eq_true, if_false]
    by_cases c : Q < 9223372036854775808
    · rw [if_pos c, if_pos (by omega)]
    · rw [if_neg c, if_neg (by omega)]
  · simp only [if_true]
    by_cases c : Q ≤ 9223372036854775808
    · rw [if_pos c, if_pos (by omega)]
    · rw [if_neg c, if_neg (by omega)]

/-- the sum of a word and 1, with what goes over -/
theorem up_one {qh ql : Int} (h0 : 0 ≤ qh) (h1 : qh ≤ 9223372036854775808) (l0 : 0 ≤ ql) (l1 : ql < 18446744073709551616) :
    IntKind.u64.wrap (qh + XWalk.c64 ql 1 0) * 18446744073709551616 + XWalk.s64 ql 1 0 = qh * 18446744073709551616 + ql + 1 ∧ 0 ≤ IntKind.u64.wrap (qh + XWalk.c64 ql 1 0) ∧ 0 ≤ XWalk.s64 ql 1 0 ∧ XWalk.s64 ql 1 0 < 18446744073709551616 := by
  rw [wu]
  unfold XWalk.c64 XWalk.s64
  refine ⟨by omega, by omega, by omega, by omega⟩

theorem div {hi lo b way : Int} (h : I64 hi) (l : U64 lo) (hb : I64 b) {k : Nat} (hk : 30 ≤ k) : wide_Div.f k hi lo b way = some (mdiv (hi * 18446744073709551616 + lo) b way) := by
  obtain ⟨k, rfl⟩ : ∃ m, k = m + 30 := ⟨k - 30, by omega⟩
  unfold wide_Div.f
  by_cases c : way < 0 ∨ way ≥ 2
  · have e : mdiv (hi * 18446744073709551616 + lo) b way = (0, 2) := by unfold mdiv; rw [if_pos c]
    rw [e]
    by_cases c1 : way < 0
    · rw [if_pos c1]
      simp only [wide_Div.j0, if_true]
    · rw [if_neg c1, decide_eq_true (by omega)]
      simp only [wide_Div.j0, if_true]
  rw [if_neg (by omega), decide_eq_false (by omega)]
  simp only [wide_Div.j0, Bool.false_eq_true, if_false]
  by_cases cb : b = 0
  · rw [if_pos cb]
    unfold mdiv
    rw [if_neg c, if_pos cb]
  rw [if_neg cb]
  have hw : way = 0 ∨ way = 1 := by omega
  obtain ⟨h0, h1⟩ := h
  obtain ⟨l0, l1⟩ := l
  obtain ⟨b0, b1⟩ := hb
  have main : ∀ xh xl : Int, U64 xl → I64 xh → (xh % 18446744073709551616) * 18446744073709551616 + xl = (if hi * 18446744073709551616 + lo < 0 then -(hi * 18446744073709551616 + lo) else hi * 18446744073709551616 + lo) →
      wide_Div.j1 (k + 29) b way (IntKind.u64.wrap b) hi lo xh xl = some (mdiv (hi * 18446744073709551616 + lo) b way) := by
    intro xh xl ⟨xl0, xl1⟩ ⟨xh0, xh1⟩ hX
    have j2 : ∀ y : Int, y = (if b < 0 then -b else b) → wide_Div.j2 (k + 28) b way y hi lo xh xl = some (mdiv (hi * 18446744073709551616 + lo) b way) := by
      intro y hy
      have hy0 : 0 < y := by subst hy; split <;> omega
      have hy1 : y ≤ 9223372036854775808 := by subst hy; split <;> omega
      simp only [wide_Div.j2]
      rw [if_neg (by omega), wu xh, td_nn (by omega), tm_nn (by omega)]
      have x0 : 0 ≤ xh % 18446744073709551616 := by omega
      have x1 : xh % 18446744073709551616 ≤ 9223372036854775808 := by
        split at hX <;> omega
      generalize xh % 18446744073709551616 = X1 at *
      have a := Int.mul_ediv_add_emod X1 y
      have a0 := Int.emod_nonneg X1 (show y ≠ 0 by omega)
      have a1 := Int.emod_lt_of_pos X1 hy0
      have q0 : 0 ≤ X1 / y := Int.ediv_nonneg x0 (by omega)
      have q1 : X1 / y ≤ X1 := Int.ediv_le_self _ x0
      rw [div64 a0 a1 xl0 xl1 (by omega) (by omega)]
      simp only [Option.bind_some]
      generalize X1 / y = qh at *
      generalize X1 % y = rest at *
      have m := Int.mul_ediv_add_emod (rest * 18446744073709551616 + xl) y
      have m0 := Int.emod_nonneg (rest * 18446744073709551616 + xl) (show y ≠ 0 by omega)
      have m1 := Int.emod_lt_of_pos (rest * 18446744073709551616 + xl) hy0
      have p0 : 0 ≤ (rest * 18446744073709551616 + xl) / y := Int.ediv_nonneg (by omega) (by omega)
      have p1 : (rest * 18446744073709551616 + xl) / y < 18446744073709551616 := by
        rw [Int.ediv_lt_iff_lt_mul hy0, Int.mul_comm]
        omega
      generalize (rest * 18446744073709551616 + xl) / y = ql at *
      generalize (rest * 18446744073709551616 + xl) % y = rr at *
      have whole := Knuth.quot_uniq (A := X1 * 18446744073709551616 + xl) (b := y) (q := qh * 18446744073709551616 + ql) (r := rr) hy0 (by
        rw [Int.mul_add, ← Int.mul_assoc]
        generalize y * qh = u at *
        generalize y * ql = v at *
        omega) m0 m1
      have T := told_rnd (A := hi * 18446744073709551616 + lo) (b := b) (way := way) (X := X1 * 18446744073709551616 + xl) (y := y) hw cb hX hy
      unfold upf at T
      rw [whole.1, whole.2] at T
      have s : (!(decide (hi < 0) == decide (b < 0))) = (decide (hi * 18446744073709551616 + lo < 0) != decide (b < 0)) := by
        rw [show decide (hi < 0) = decide (hi * 18446744073709551616 + lo < 0) from decide_eq_decide.2 (by omega)]
        rfl
      rw [s, ← T]
      generalize (decide (hi * 18446744073709551616 + lo < 0) != decide (b < 0)) = less
      obtain ⟨u1, u2, u3, u4⟩ := up_one (qh := qh) (ql := ql) q0 (by omega) p0 p1
      rcases hw with rfl | rfl
      · simp only [if_true]
        have F : wide_quotient_floor.f (IntKind.u64.wrap qh) ql rr y less = some (less && decide (rr > 0)) := by
          unfold wide_quotient_floor.f
          cases less <;> simp
        rw [F]
        simp only [Option.bind_some]
        rw [wu_id (n := qh) q0 (by omega)]
        by_cases d : (less && decide (rr > 0)) = true
        · rw [if_pos d, if_pos d, if_pos p0]
          rw [j3_told u2 u3 u4, u1]
          first | done | rfl
        · rw [if_neg d, if_neg d]
          rw [j3_told q0 p0 p1]
          simp
      · simp only [show ((1 : Int) = 0) = False by simp, if_false, if_true]
        rw [near_told m0 m1 (by omega) p0 p1]
        simp only [Option.bind_some]
        rw [wu_id (n := qh) q0 (by omega)]
        have par : (qh * 18446744073709551616 + ql) % 2 = ql % 2 := by omega
        rw [par]
        by_cases d : (decide (2 * rr > y ∨ 2 * rr = y ∧ ql % 2 = 1)) = true
        · rw [if_pos d, if_pos d, if_pos p0]
          rw [j5_told u2 u3 u4, u1]
          first | done | rfl
        · rw [if_neg d, if_neg d]
          rw [j5_told q0 p0 p1]
          simp
    simp only [wide_Div.j1]
    by_cases d : b < 0
    · rw [if_pos d]
      refine j2 _ ?_
      rw [wu, wu, if_pos d]
      omega
    · rw [if_neg d]
      refine j2 _ ?_
      rw [wu, if_neg d]
      omega
  by_cases d : hi < 0
  · rw [if_pos d]
    obtain ⟨h', l', e, i1, i2, i3⟩ := turned ⟨h0, h1⟩ ⟨l0, l1⟩
    rw [e]
    simp only [Option.bind_some]
    refine main h' l' i2 i1 ?_
    rw [i3, if_pos (by omega)]
    omega
  · rw [if_neg d]
    refine main hi lo ⟨l0, l1⟩ ⟨h0, h1⟩ ?_
    rw [if_neg (by omega)]
    omega

theorem mulDiv {a b c way : Int} (ha : I64 a) (hb : I64 b) (hc : I64 c) {k : Nat} (hk : 30 ≤ k) : wide_MulDiv.f k a b c way = some (mdiv (a * b) c way) := by
  unfold wide_MulDiv.f
  rw [mul ha hb]
  have hm := mul_i64 ha hb
  simp only [Option.bind_some]
  rw [div ⟨by omega, by omega⟩ ⟨by omega, by omega⟩ hc hk]
  simp only [Option.bind_some]
  rw [show a * b / 18446744073709551616 * 18446744073709551616 + a * b % 18446744073709551616 = a * b by omega]
end Go.Proofs.Ytchpeobenlnemaa.XWide
end

section
namespace Go.Proofs.Ytchpeobenlnemaa.XMdiv
set_option linter.unusedVariables false
set_option linter.unusedSimpArgs false
open Go.RowKit Go.Proofs.Ytchpeobenlnemaa.S Go.Proofs.Ytchpeobenlnemaa.XNum Go.Proofs.Ytchpeobenlnemaa.XBits Go.Proofs.Ytchpeobenlnemaa.XWide Go.Proofs.Ytchpeobenlnemaa.Rnd Go.Proofs.YtchpeobenlnemaaW.PrintWords

theorem rnd_n {A b : Int} (hb : 0 < b) : rnd A b 1 = near A b := by
  unfold rnd
  rw [if_neg (c := (1 : Int) = 0) (by omega), if_neg (c := b < 0) (by omega)]
/-- to the nearer one, by a number above 0 -/
theorem mdiv_n {A b : Int} (hb : 0 < b) : mdiv A b 1 = if I64 (near A b) then (near A b, 0) else (0, 3) := by
  unfold mdiv
  rw [if_neg (c := (1 : Int) < 0 ∨ (1 : Int) ≥ 2) (by omega), if_neg (c := b = 0) (by omega), rnd_n hb]
theorem mdiv_in {A b : Int} (hb : 0 < b) (h : I64 (near A b)) : mdiv A b 1 = (near A b, 0) := by
  rw [mdiv_n hb, if_pos h]
end Go.Proofs.Ytchpeobenlnemaa.XMdiv
end

section
namespace Go.Proofs.Ytchpeobenlnemaa.XRate
set_option linter.unusedVariables false
set_option linter.unusedSimpArgs false
open Go.RowKit Go.Proofs.Ytchpeobenlnemaa.S Go.Proofs.Ytchpeobenlnemaa.XNum Go.Proofs.Ytchpeobenlnemaa.XBits Go.Proofs.Ytchpeobenlnemaa.XWide Go.Proofs.Ytchpeobenlnemaa.Rnd Go.Proofs.Ytchpeobenlnemaa.XMdiv Go.Proofs.YtchpeobenlnemaaW.PrintWords

/-- may a rate be? -/
def mayR (r : Int) : Prop := -990000000000 ≤ r ∧ r ≤ 10000000000000
instance (r : Int) : Decidable (mayR r) := inferInstanceAs (Decidable (_ ∧ _))
theorem may (r : Int) : rate_May.f r = some (decide (mayR r)) := by
  unfold rate_May.f
  by_cases c : mayR r
  · rw [decide_eq_true c]
    unfold mayR at c
    rw [if_pos (by omega), decide_eq_true (by omega)]
  · rw [decide_eq_false c]
    unfold mayR at c
    by_cases d : r ≥ -990000000000
    · rw [if_pos d, decide_eq_false (by omega)]
    · rw [if_neg d]

def interest (x r : Int) : Int × Int := if mayR r then mdiv (x * r) 1000000000000 1 else (0, 2)
def grow (x r : Int) : Int × Int := if mayR r then mdiv (x * (1000000000000 + r)) 1000000000000 1 else (0, 2)
def discount (x r : Int) : Int × Int := if mayR r then mdiv (x * 1000000000000) (1000000000000 + r) 1 else (0, 2)

theorem interest_f {x r : Int} (hx : I64 x) {k : Nat} (hk : 30 ≤ k) : rate_Interest.f k x r = some (interest x r) := by
  unfold rate_Interest.f rate_over_rate_yield.f rate_yield_terms.f
  rw [may]
  simp only [Option.bind_some]
  unfold interest
  by_cases c : mayR r
  · rw [decide_eq_true c, if_pos c]
    simp only [if_true]
    unfold mayR at c
    rw [mulDiv hx ⟨by omega, by omega⟩ ⟨by omega, by omega⟩ hk]
    simp only [Option.bind_some]
  · rw [decide_eq_false c, if_neg c]
    simp
/-- a part of a rate -/
def part (r o all : Int) : Int × Int := if o < 0 ∨ all ≤ 0 then (0, 2) else mdiv (r * o) all 1
/-- what an amount grows to in n periods, or the first error -/
def powers (r : Int) : Nat → Int × Int
  | 0 => (1000000000000, 0)
  | n + 1 => if (powers r n).2 = 0 then grow (powers r n).1 r else powers r n
def power (r n : Int) : Int × Int := if mayR r ∧ 0 ≤ n ∧ n ≤ 600 then powers r n.toNat else (0, 2)
end Go.Proofs.Ytchpeobenlnemaa.XRate
end

section
namespace Go.Proofs.Ytchpeobenlnemaa.XRef02
set_option linter.unusedVariables false
set_option linter.unusedSimpArgs false
open Go.RowKit Go.Proofs.Ytchpeobenlnemaa.S Go.Proofs.Ytchpeobenlnemaa.XNum Go.Proofs.Ytchpeobenlnemaa.XWide Go.Proofs.Ytchpeobenlnemaa.Rnd Go.Proofs.YtchpeobenlnemaaW.PrintWords

theorem up_eq (way : Int) (L : Bool) (N D : Nat) : lombardref02_div.up way L N D = upf way N D L := by
  have e1 : ((N % D : Nat) : Int) = (N : Int) % D := Int.natCast_emod N D
  have e2 : ((N / D : Nat) : Int) = (N : Int) / D := Int.natCast_ediv N D
  unfold lombardref02_div.up upf
  rw [← e1, ← e2]
  by_cases c : way = 0
  · rw [if_pos c, if_pos c]
    congr 1
    exact decide_eq_decide.2 (by omega)
  · rw [if_neg c, if_neg c, Bool.eq_iff_iff]
    simp only [Bool.or_eq_true, Bool.and_eq_true, decide_eq_true_iff]
    omega
theorem Q_eq (way : Int) (L : Bool) (N D : Nat) : ((lombardref02_div.Q way L N D : Nat) : Int) = (N : Int) / D + if upf way N D L = true then 1 else 0 := by
  have e2 : ((N / D : Nat) : Int) = (N : Int) / D := Int.natCast_ediv N D
  unfold lombardref02_div.Q
  rw [up_eq, ← e2]
  split <;> omega
theorem told (way : Int) (L : Bool) (N D : Nat) : (lombardref02_div.r way L N D, lombardref02_div.e way L N D) = toldQ ((lombardref02_div.Q way L N D : Nat) : Int) L := by
  have e : (2 : Nat) ^ 63 = 9223372036854775808 := by decide
  unfold lombardref02_div.r lombardref02_div.e lombardref02_small.v lombardref02_small.ok toldQ
  rw [e]
  generalize lombardref02_div.Q way L N D = Q
  cases L
  · by_cases c : Q < 9223372036854775808
    · have z : ¬(9223372036854775808 < Q ∨ Q = 9223372036854775808 ∧ false = false) := by
        intro h
        rcases h with h | h <;> omega
      rw [if_neg z, if_neg z, if_pos rfl, if_pos rfl, if_neg (by simp), if_neg (by simp), if_pos (by omega)]
    · have z : 9223372036854775808 < Q ∨ Q = 9223372036854775808 ∧ false = false := by
        by_cases d : Q = 9223372036854775808
        · exact .inr ⟨d, rfl⟩
        · exact .inl (by omega)
      rw [if_pos z, if_neg (by simp), if_neg (by simp), if_neg (by simp), if_neg (by omega)]
  · by_cases c : Q ≤ 9223372036854775808
    · have z : ¬(9223372036854775808 < Q ∨ Q = 9223372036854775808 ∧ true = false) := by
        intro h
        rcases h with h | h
        · omega
        · exact absurd h.2 (by simp)
      rw [if_neg z, if_neg z, if_pos rfl, if_pos rfl, if_pos rfl, if_pos rfl, if_pos (by omega)]
    · have z : 9223372036854775808 < Q ∨ Q = 9223372036854775808 ∧ true = false := .inl (by omega)
      rw [if_pos z, if_neg (by simp), if_neg (by simp), if_pos rfl, if_neg (by omega)]
theorem zero {way y : Int} (hy : 0 < y) (L : Bool) : toldQ (0 / y + if upf way 0 y L = true then 1 else 0) L = (0, 0) := by
  have u : upf way 0 y L = false := by
    unfold upf
    rw [Int.zero_emod, Int.zero_ediv]
    split
    · simp
    · exact decide_eq_false (by omega)
  rw [u, Int.zero_ediv]
  unfold toldQ
  cases L <;> simp
theorem v_eq {less : Bool} {N : Nat} {b way : Int} : lombardref02_div.v less N b way = mdiv (if less = true then -(N : Int) else N) b way := by
  unfold lombardref02_div.v
  by_cases c : way ≠ 0 ∧ way ≠ 1
  · rw [if_pos c]
    unfold mdiv
    rw [if_pos (by omega)]
  · rw [if_neg c]
    by_cases z : b = 0
    · rw [if_pos z]
      unfold mdiv
      rw [if_neg (by omega), if_pos z]
    · rw [if_neg z, told, Q_eq]
      have hw : way = 0 ∨ way = 1 := by omega
      have hy : ((b.natAbs : Nat) : Int) = if b < 0 then -b else b := by split <;> omega
      have y0 : (0 : Int) < (b.natAbs : Nat) := by omega
      by_cases n0 : N = 0
      · subst n0
        have t := told_rnd (A := 0) (b := b) (way := way) (X := 0) (y := (b.natAbs : Nat)) hw z (by simp) hy
        rw [zero y0] at t
        have w : (if less = true then -((0 : Nat) : Int) else ((0 : Nat) : Int)) = 0 := by split <;> rfl
        rw [w, ← t]
        exact zero y0 _
      · have A0 : decide ((if less = true then -(N : Int) else (N : Int)) < 0) = less := by
          cases less
          · rw [if_neg (by simp)]
            exact decide_eq_false (by omega)
          · rw [if_pos rfl]
            exact decide_eq_true (by omega)
        have t := told_rnd (A := if less = true then -(N : Int) else (N : Int)) (b := b) (way := way) (X := N) (y := (b.natAbs : Nat)) hw z (by
          cases less
          · rw [if_neg (c := false = true) (by simp), if_neg (by omega)]
          · rw [if_pos (c := true = true) rfl, if_pos (by omega), Int.neg_neg]) hy
        rw [A0] at t
        exact t
theorem mulDiv {a b c way : Int} (ha : I64 a) (hb : I64 b) (hc : I64 c) : lombardref02_MulDiv.f a b c way = some (mdiv (a * b) c way) := by
  unfold lombardref02_MulDiv.f
  rw [if_pos ⟨ha.1, ha.2, hb.1, hb.2, hc.1, hc.2⟩, v_eq]
  congr 2
  have h1 : ((a.natAbs : Nat) : Int) = if a < 0 then -a else a := by split <;> omega
  have h2 : ((b.natAbs : Nat) : Int) = if b < 0 then -b else b := by split <;> omega
  rw [Int.natCast_mul, h1, h2]
  by_cases x : a < 0 <;> by_cases y : b < 0 <;> simp [x, y, Int.neg_mul, Int.mul_neg]
end Go.Proofs.Ytchpeobenlnemaa.XRef02
end

section
namespace Go.Proofs.Ytchpeobenlnemaa.XRefRate
set_option linter.unusedVariables false
set_option linter.unusedSimpArgs false
open Go.RowKit Go.Proofs.Ytchpeobenlnemaa.S Go.Proofs.Ytchpeobenlnemaa.XNum Go.Proofs.Ytchpeobenlnemaa.XBits Go.Proofs.Ytchpeobenlnemaa.XWide Go.Proofs.Ytchpeobenlnemaa.Rnd Go.Proofs.Ytchpeobenlnemaa.XMdiv Go.Proofs.Ytchpeobenlnemaa.XRate Go.Proofs.YtchpeobenlnemaaW.PrintWords

theorem rmay (r : Int) : lombardref03_May.f r = some (decide (mayR r)) := by
  have h := may r
  unfold rate_May.f at h
  unfold lombardref03_May.f
  exact h
theorem near_f {r a b c : Int} (ha : I64 a) (hb : mayR r → I64 b) (hc : mayR r → I64 c) : lombardref03_near.f r a b c = some (if mayR r then mdiv (a * b) c 1 else (0, 2)) := by
  unfold lombardref03_near.f
  rw [rmay]
  simp only [Option.bind_some]
  by_cases d : mayR r
  · rw [decide_eq_true d, if_pos rfl, if_pos d, XRef02.mulDiv ha (hb d) (hc d)]
    rfl
  · rw [decide_eq_false d, if_neg (by simp), if_neg d]
theorem rinterest {x r : Int} (hx : I64 x) : lombardref03_Interest.f x r = some (interest x r) := by
  unfold lombardref03_Interest.f
  rw [near_f hx (fun h => ⟨by unfold mayR at h; omega, by unfold mayR at h; omega⟩) (fun _ => ⟨by omega, by omega⟩)]
  rfl
end Go.Proofs.Ytchpeobenlnemaa.XRefRate
end

section
namespace Go.Proofs.Ytchpeobenlnemaa.XPay
set_option linter.unusedVariables false
set_option linter.unusedSimpArgs false
open Go.RowKit Go.Proofs.Ytchpeobenlnemaa.S Go.Proofs.Ytchpeobenlnemaa.XNum Go.Proofs.Ytchpeobenlnemaa.XWide Go.Proofs.Ytchpeobenlnemaa.Rnd Go.Proofs.Ytchpeobenlnemaa.XMdiv Go.Proofs.Ytchpeobenlnemaa.XRate Go.Proofs.Ytchpeobenlnemaa.XRefRate Go.Proofs.YtchpeobenlnemaaW.PrintWords Go.Proofs.YtchpeobenlnemaaW.PrintLast Go.Proofs.YtchpeobenlnemaaW.PrintMore

/-- a period's interest -/
def nr (r x : Int) : Int := near (x * r) 1000000000000
def okr (r : Int) : Prop := 0 ≤ r ∧ r ≤ 1000000000000
instance (r : Int) : Decidable (okr r) := inferInstanceAs (Decidable (_ ∧ _))
theorem nr_rate {r r' x x' : Int} (h0 : 0 ≤ r') (h : r' ≤ r) (hx : 0 ≤ x') (hxx : x' ≤ x) : nr r' x' ≤ nr r x :=
  near_mono (by omega) (Int.mul_le_mul hxx h h0 (by omega))
theorem nr_mono {r x y : Int} (hr : okr r) (h : x ≤ y) : nr r x ≤ nr r y := near_mono (by omega) (Int.mul_le_mul_of_nonneg_right h hr.1)
theorem nr_zero (r : Int) : nr r 0 = 0 := by
  unfold nr
  rw [Int.zero_mul]
  have := near_exact (b := 1000000000000) (N := 0) (by omega)
  rwa [Int.mul_zero] at this
theorem nr_nn {r x : Int} (hr : okr r) (hx : 0 ≤ x) : 0 ≤ nr r x := by
  have := nr_mono hr hx
  rwa [nr_zero] at this
theorem nr_le {r x : Int} (hr : okr r) (hx : 0 ≤ x) : nr r x ≤ x := by
  have h : nr r x ≤ near (1000000000000 * x) 1000000000000 := by
    refine near_mono (by omega) ?_
    rw [Int.mul_comm 1000000000000 x]
    exact Int.mul_le_mul_of_nonneg_left hr.2 hx
  rwa [near_exact (by omega)] at h
theorem int_eq {r x : Int} (hr : okr r) (h0 : 0 ≤ x) (h1 : x ≤ 1000000000000000000) : interest x r = (nr r x, 0) := by
  have hn := nr_nn hr h0
  have hl := nr_le hr h0
  unfold okr at hr
  unfold interest
  rw [if_pos (by unfold mayR; omega)]
  exact mdiv_in (by omega) ⟨by unfold nr at hn; omega, by unfold nr at hl; omega⟩

/-- is x paid off by a in n periods? -/
def pd (r a : Int) : Nat → Int → Bool
  | 0, x => decide (x ≤ 0)
  | n + 1, x => if x ≤ 0 then true else pd r a n (x + nr r x - a)
theorem pd_done {r a x : Int} (h : x ≤ 0) : ∀ n, pd r a n x = true
  | 0 => by unfold pd; exact decide_eq_true h
  | n + 1 => by unfold pd; rw [if_pos h]
/-- at a lower rate, with more paid, in more periods, of less -/
theorem pd_all {r r' : Int} (hr' : okr r') (h : r' ≤ r) {a a' : Int} (ha : a ≤ a') : ∀ (n n' : Nat) (x x' : Int), n ≤ n' → x' ≤ x → pd r a n x = true → pd r' a' n' x' = true
  | 0, n', x, x', _, hx, hp => by
    unfold pd at hp
    exact pd_done (by have := of_decide_eq_true hp; omega) n'
  | n + 1, n', x, x', hn, hx, hp => by
    by_cases c : x' ≤ 0
    · exact pd_done c n'
    · obtain ⟨m, rfl⟩ : ∃ m, n' = m + 1 := ⟨n' - 1, by omega⟩
      unfold pd at hp ⊢
      rw [if_neg c]
      rw [if_neg (by omega)] at hp
      refine pd_all hr' h ha n m _ _ (by omega) ?_ hp
      have := nr_rate hr'.1 h (x := x) (x' := x') (by omega) hx
      omega
theorem pd_mono {r : Int} (hr : okr r) {a a' x : Int} (ha : a ≤ a') {n : Nat} (h : pd r a n x = true) : pd r a' n x = true := pd_all hr (Int.le_refl r) ha n n x x (Nat.le_refl _) (Int.le_refl _) h
/-- what doesn't get less is never paid off -/
theorem pd_stuck {r a x : Int} (hr : okr r) (hx : 0 < x) (h : x ≤ x + nr r x - a) : ∀ (n : Nat) (y : Int), x ≤ y → pd r a n y = false
  | 0, y, hy => by unfold pd; exact decide_eq_false (by omega)
  | n + 1, y, hy => by
    unfold pd
    rw [if_neg (by omega)]
    refine pd_stuck hr hx h n _ ?_
    have := nr_mono hr hy
    omega

/-- v is the least payment -/
def IsLv (r : Int) (n : Nat) (left v : Int) : Prop := 0 ≤ v ∧ pd r v n left = true ∧ ∀ a, 0 ≤ a → a < v → pd r a n left = false
theorem IsLv.uniq {r : Int} {n : Nat} {left v v' : Int} (h : IsLv r n left v) (h' : IsLv r n left v') : v = v' := by
  rcases Int.lt_trichotomy v v' with c | c | c
  · have := h'.2.2 v h.1 c
    rw [h.2.1] at this
    exact absurd this (by simp)
  · exact c
  · have := h.2.2 v' h'.1 c
    rw [h'.2.1] at this
    exact absurd this (by simp)
/-- the search -/
def srch (r : Int) (n : Nat) (left : Int) : Nat → Int → Int → Int
  | 0, lo, _ => lo
  | j + 1, lo, hi => if lo < hi then (if pd r (lo + (hi - lo) / 2) n left = true then srch r n left j lo (lo + (hi - lo) / 2) else srch r n left j (lo + (hi - lo) / 2 + 1) hi) else lo
theorem srch_is {r : Int} (hr : okr r) {n : Nat} {left : Int} : ∀ (j : Nat) (lo hi : Int), 0 ≤ lo → lo ≤ hi → hi - lo < 2 ^ j → pd r hi n left = true → (∀ a, 0 ≤ a → a < lo → pd r a n left = false) → IsLv r n left (srch r n left j lo hi) ∧ srch r n left j lo hi ≤ hi
  | 0, lo, hi, h0, h1, h2, h3, h4 => by
    have e : lo = hi := by simp at h2; omega
    subst e
    unfold srch
    exact ⟨⟨h0, h3, h4⟩, Int.le_refl _⟩
  | j + 1, lo, hi, h0, h1, h2, h3, h4 => by
    unfold srch
    by_cases c : lo < hi
    · rw [if_pos c]
      obtain ⟨p, hp⟩ : ∃ p : Int, (2 : Int) ^ j = p := ⟨_, rfl⟩
      have h2' : hi - lo < 2 * p := by rw [Int.pow_succ, hp] at h2; omega
      by_cases d : pd r (lo + (hi - lo) / 2) n left = true
      · rw [if_pos d]
        have := srch_is hr (n := n) (left := left) j lo (lo + (hi - lo) / 2) h0 (by omega) (by rw [hp]; omega) d h4
        exact ⟨this.1, by omega⟩
      · rw [if_neg d]
        refine srch_is hr (n := n) (left := left) j (lo + (hi - lo) / 2 + 1) hi (by omega) (by omega) (by rw [hp]; omega) h3 fun a ha hl => ?_
        cases e : pd r a n left with
        | false => rfl
        | true => exact absurd (pd_mono hr (by omega) e) d
    · rw [if_neg c]
      have e : lo = hi := by omega
      subst e
      exact ⟨⟨h0, h3, h4⟩, Int.le_refl _⟩
/-- the least payment -/
def lv (r : Int) (n : Nat) (left : Int) : Int := srch r n left 64 0 (left + nr r left)
theorem pd_first {r left : Int} {n : Nat} (hn : 1 ≤ n) : pd r (left + nr r left) n left = true := by
  obtain ⟨m, rfl⟩ : ∃ m, n = m + 1 := ⟨n - 1, by omega⟩
  unfold pd
  split
  · rfl
  · exact pd_done (by omega) m
theorem lv_both {r left : Int} {n : Nat} (hr : okr r) (hn : 1 ≤ n) (h0 : 0 ≤ left) (h1 : left ≤ 10000000000000) : IsLv r n left (lv r n left) ∧ lv r n left ≤ left + nr r left := by
  have a0 := nr_nn hr h0
  have a1 := nr_le hr h0
  exact srch_is hr 64 0 (left + nr r left) (Int.le_refl _) (by omega) (Int.lt_of_lt_of_le (b := 20000000000001) (by omega) (by decide)) (pd_first hn) (fun a h h' => by omega)
theorem lv_is {r left : Int} {n : Nat} (hr : okr r) (hn : 1 ≤ n) (h0 : 0 ≤ left) (h1 : left ≤ 10000000000000) : IsLv r n left (lv r n left) := (lv_both hr hn h0 h1).1
theorem lv_le {r left : Int} {n : Nat} (hr : okr r) (hn : 1 ≤ n) (h0 : 0 ≤ left) (h1 : left ≤ 10000000000000) : lv r n left ≤ left + nr r left := (lv_both hr hn h0 h1).2
theorem lv_nn {r left : Int} {n : Nat} (hr : okr r) (hn : 1 ≤ n) (h0 : 0 ≤ left) (h1 : left ≤ 10000000000000) : 0 ≤ lv r n left := (lv_both hr hn h0 h1).1.1
def level (left r n : Int) : Int × Int := if 0 ≤ left ∧ left ≤ 10000000000000 ∧ okr r ∧ 1 ≤ n ∧ n ≤ 600 then (lv r n.toNat left, 0) else (0, 2)

theorem one_f {x r : Int} (hr : okr r) (h0 : 0 ≤ x) (h1 : x ≤ 1000000000000000000) {k : Nat} (hk : 30 ≤ k) : sched_Level_1.f k x r = some (nr r x) := by
  unfold sched_Level_1.f
  rw [interest_f ⟨by omega, by omega⟩ hk, int_eq hr h0 h1]
  rfl
/-- the program's test -/
theorem test_l0 {r a n : Int} (hr : okr r) (a0 : 0 ≤ a) (a1 : a ≤ 40000000000000) (hn : n ≤ 600) : ∀ (d : Nat) (x i : Int) (k : Nat), i + d = n → 0 ≤ i → -40000000000000 ≤ x → x ≤ 10000000000000 → d + 40 ≤ k → sched_Level_2.l0 k a x n i r = some (pd r a d x)
  | 0, x, i, k + 1, hi, _, _, _, _ => by
    rw [sched_Level_2.l0, if_neg (by omega)]
    rfl
  | d + 1, x, i, k + 1, hi, h0, hx0, hx1, hk => by
    rw [sched_Level_2.l0, if_pos (by omega)]
    by_cases c : x ≤ 0
    · rw [if_pos c, pd_done c, decide_eq_true c]
    · rw [if_neg c, one_f hr (by omega) (by omega) (by omega), Option.bind_some]
      have b0 := nr_nn hr (x := x) (by omega)
      have b1 := nr_le hr (x := x) (by omega)
      rw [w64 (n := x + nr r x) (by omega) (by omega), w64 (n := x + nr r x - a) (by omega) (by omega)]
      by_cases e : x + nr r x - a ≥ x
      · rw [if_pos e, pd_stuck hr (by omega) (by omega) _ _ (Int.le_refl _)]
      · rw [if_neg e, w64 (n := i + 1) (by omega) (by omega), test_l0 hr a0 a1 hn d _ _ k (by omega) (by omega) (by omega) (by omega) (by omega)]
        conv => rhs; unfold pd
        rw [if_neg c]
theorem test_f {r a left n : Int} (hr : okr r) (a0 : 0 ≤ a) (a1 : a ≤ 40000000000000) (h0 : 0 ≤ left) (h1 : left ≤ 10000000000000) (hn0 : 0 ≤ n) (hn : n ≤ 600) {k : Nat} (hk : 640 ≤ k) : sched_Level_2.f k a left n r = some (pd r a n.toNat left) := by
  unfold sched_Level_2.f
  exact test_l0 hr a0 a1 hn n.toNat left 0 k (by omega) (by omega) (by omega) h1 (by omega)
theorem srch_l0 {r left n : Int} (hr : okr r) (h0 : 0 ≤ left) (h1 : left ≤ 10000000000000) (hn0 : 0 ≤ n) (hn : n ≤ 600) : ∀ (j : Nat) (lo hi : Int) (k : Nat), 0 ≤ lo → hi ≤ 40000000000000 → hi - lo < 2 ^ j → j + 700 ≤ k → sched_least_int64__sched_Level_2.l0 k lo hi left n r = some (srch r n.toNat left j lo hi)
  | 0, lo, hi, k + 1, _, _, h2, _ => by
    rw [sched_least_int64__sched_Level_2.l0, if_neg (by simp at h2; omega)]
    rfl
  | j + 1, lo, hi, k + 1, hl, hh, h2, hk => by
    obtain ⟨p, hp⟩ : ∃ p : Int, (2 : Int) ^ j = p := ⟨_, rfl⟩
    have h2' : hi - lo < 2 * p := by rw [Int.pow_succ, hp] at h2; omega
    rw [sched_least_int64__sched_Level_2.l0]
    conv => rhs; unfold srch
    by_cases c : lo < hi
    · rw [if_pos c, if_pos c, w64 (n := hi - lo) (by omega) (by omega), td_nn (by omega), w64 (n := (hi - lo) / 2) (by omega) (by omega), w64 (n := lo + (hi - lo) / 2) (by omega) (by omega), test_f hr (by omega) (by omega) h0 h1 hn0 hn (by omega), Option.bind_some]
      by_cases d : pd r (lo + (hi - lo) / 2) n.toNat left = true
      · rw [if_pos d, if_pos d, srch_l0 hr h0 h1 hn0 hn j _ _ k (by omega) (by omega) (by rw [hp]; omega) (by omega)]
      · rw [if_neg d, if_neg d, w64 (n := lo + (hi - lo) / 2 + 1) (by omega) (by omega), srch_l0 hr h0 h1 hn0 hn j _ _ k (by omega) (by omega) (by rw [hp]; omega) (by omega)]
    · rw [if_neg c, if_neg c]
theorem within64 (n lo hi : Int) : sched_within_int64.f n lo hi = some (decide (lo ≤ n ∧ n ≤ hi)) := by
  unfold sched_within_int64.f
  split
  · rename_i h
    congr 1
    rw [decide_eq_decide]
    omega
  · rename_i h
    rw [decide_eq_false (by omega)]
theorem withinI (n lo hi : Int) : sched_within_int.f n lo hi = some (decide (lo ≤ n ∧ n ≤ hi)) := by
  unfold sched_within_int.f
  split
  · rename_i h
    congr 1
    rw [decide_eq_decide]
    omega
  · rename_i h
    rw [decide_eq_false (by omega)]
theorem level_f {left r n : Int} {k : Nat} (hk : 800 ≤ k) : sched_Level.f k left r n = some (level left r n) := by
  obtain ⟨k, rfl⟩ : ∃ m, k = m + 1 := ⟨k - 1, by omega⟩
  have bad : ∀ (h : ¬(0 ≤ left ∧ left ≤ 10000000000000 ∧ okr r ∧ 1 ≤ n ∧ n ≤ 600)), sched_Level.j0 (k + 1) true left r n = some (level left r n) := by
    intro h
    rw [sched_Level.j0, if_pos rfl]
    unfold level
    rw [if_neg h]
  unfold sched_Level.f sched_may.f
  rw [within64, Option.bind_some]
  by_cases c1 : 0 ≤ left ∧ left ≤ 10000000000000
  · rw [if_pos (decide_eq_true c1), within64, Option.bind_some, Option.bind_some]
    by_cases c2 : 0 ≤ r ∧ r ≤ 1000000000000
    · rw [if_pos (decide_eq_true c2), withinI, Option.bind_some]
      by_cases c3 : 1 ≤ n ∧ n ≤ 600
      · rw [decide_eq_true c3]
        have hr : okr r := c2
        have b0 := nr_nn hr c1.1
        have b1 := nr_le hr c1.1
        rw [sched_Level.j0, if_neg (by simp), one_f hr c1.1 (by omega) (by omega), Option.bind_some, w64 (n := left + nr r left) (by omega) (by omega), sched_least_int64__sched_Level_2.f, srch_l0 hr c1.1 c1.2 (by omega) c3.2 64 _ _ k (by omega) (by omega) (Int.lt_of_lt_of_le (b := 20000000000001) (by omega) (by decide)) (by omega), Option.bind_some]
        unfold level
        rw [if_pos ⟨c1.1, c1.2, hr, c3.1, c3.2⟩]
        rfl
      · rw [decide_eq_false c3]
        exact bad (fun h => c3 h.2.2.2)
    · rw [if_neg (by rw [decide_eq_true_iff]; exact c2)]
      exact bad (fun h => c2 h.2.2.1)
  · rw [if_neg (by rw [decide_eq_true_iff]; exact c1)]
    exact bad (fun h => c1 ⟨h.1, h.2.1⟩)

/-- the document's test -/
theorem rtest {r a n : Int} (hr : okr r) (a0 : 0 ≤ a) (a1 : a ≤ 140737488355328) (hn : n ≤ 600) : ∀ (d : Nat) (x i : Int) (k : Nat), i + d = n → 0 ≤ i → -150000000000000 ≤ x → x ≤ 40000000000000 → 2 * d + 40 ≤ k → lombardref08_pays.l0 k x r n a i = some (pd r a d x)
  | 0, x, i, k + 2, hi, _, _, _, _ => by
    rw [lombardref08_pays.l0, if_neg (by omega), lombardref08_pays.j1, if_neg (by simp)]
    rfl
  | d + 1, x, i, k + 2, hi, h0, hx0, hx1, hk => by
    rw [lombardref08_pays.l0, if_pos (by omega), lombardref08_pays.j1]
    by_cases c : x ≤ 0
    · rw [if_neg (by rw [decide_eq_true_iff]; omega), pd_done c, decide_eq_true c]
    · have b0 := nr_nn hr (x := x) (by omega)
      have b1 := nr_le hr (x := x) (by omega)
      rw [if_pos (decide_eq_true (by omega)), rinterest ⟨by omega, by omega⟩, int_eq hr (by omega) (by omega), Option.bind_some]
      dsimp only
      rw [w64 (n := nr r x - a) (by omega) (by omega), w64 (n := x + (nr r x - a)) (by omega) (by omega)]
      by_cases e : x + (nr r x - a) > 40000000000000
      · rw [if_pos e, pd_stuck hr (by omega) (by omega) _ _ (Int.le_refl _)]
      · rw [if_neg e, w64 (n := i + 1) (by omega) (by omega), rtest hr a0 a1 hn d _ _ k (by omega) (by omega) (by omega) (by omega) (by omega)]
        conv => rhs; unfold pd
        rw [if_neg c, show x + (nr r x - a) = x + nr r x - a by omega]
theorem rtest_f {r a left n : Int} (hr : okr r) (a0 : 0 ≤ a) (a1 : a ≤ 140737488355328) (h0 : 0 ≤ left) (h1 : left ≤ 10000000000000) (hn0 : 0 ≤ n) (hn : n ≤ 600) {k : Nat} (hk : 1240 ≤ k) : lombardref08_pays.f k left r n a = some (pd r a n.toNat left) := by
  unfold lombardref08_pays.f
  exact rtest hr a0 a1 hn n.toNat left 0 k (by omega) (by omega) (by omega) (by omega) (by omega)
theorem rlevel_end {r left n m v : Int} {k : Nat} (hm0 : 0 ≤ m) (hm1 : m ≤ 140737488355328) (hm : pd r m n.toNat left = false) (hv : IsLv r n.toNat left v) (h : pd r (m + 1) n.toNat left = true) (hr : okr r) : lombardref08_Level.l0 (k + 1) left r n m 0 = some (v, 0) := by
  rw [lombardref08_Level.l0, if_neg (by omega), w64 (n := m + 1) (by omega) (by omega)]
  have e : v = m + 1 := by
    refine hv.uniq ⟨by omega, h, fun a ha hl => ?_⟩
    cases d : pd r a n.toNat left with
    | false => rfl
    | true =>
      have := pd_mono hr (a' := m) (by omega) d
      rw [hm] at this
      exact absurd this (by simp)
  rw [e]
theorem rlevel_l0 {r left n v : Int} (hr : okr r) (h0 : 0 ≤ left) (h1 : left ≤ 10000000000000) (hn0 : 0 ≤ n) (hn : n ≤ 600) (hv : IsLv r n.toNat left v) : ∀ (j : Nat) (m b : Int) (k : Nat), b = 2 ^ j → 0 ≤ m → m + 2 * b ≤ 140737488355328 → pd r m n.toNat left = false → pd r (m + 2 * b) n.toNat left = true → j + 1300 ≤ k → lombardref08_Level.l0 k left r n m b = some (v, 0)
  | 0, m, b, k + 2, hb, hm, hmb, p0, p1, hk => by
    have hb : b = 1 := by simpa using hb
    subst hb
    rw [lombardref08_Level.l0, if_pos (by omega), w64 (n := m + 1) (by omega) (by omega), rtest_f hr (by omega) (by omega) h0 h1 hn0 hn (by omega), Option.bind_some, show wrap64 (Int.tdiv 1 2) = 0 from by decide +kernel]
    by_cases d : pd r (m + 1) n.toNat left = true
    · rw [if_pos d]
      exact rlevel_end hm (by omega) p0 hv d hr
    · rw [if_neg d]
      exact rlevel_end (by omega) (by omega) (by simpa using d) hv (by rw [show m + 1 + 1 = m + 2 * 1 by omega]; exact p1) hr
  | j + 1, m, b, k + 1, hb, hm, hmb, p0, p1, hk => by
    obtain ⟨c, hc⟩ : ∃ c : Int, (2 : Int) ^ j = c := ⟨_, rfl⟩
    have hb2 : b = 2 * c := by rw [hb, Int.pow_succ, hc]; omega
    have c0 : 0 < c := by rw [← hc]; exact Int.pow_pos (by omega)
    rw [lombardref08_Level.l0, if_pos (by omega), w64 (n := m + b) (by omega) (by omega), td_nn (by omega), w64 (n := b / 2) (by omega) (by omega), rtest_f hr (by omega) (by omega) h0 h1 hn0 hn (by omega), Option.bind_some, show b / 2 = c by omega]
    by_cases d : pd r (m + b) n.toNat left = true
    · rw [if_pos d]
      exact rlevel_l0 hr h0 h1 hn0 hn hv j m c k hc.symm hm (by omega) p0 (by rw [← hb2]; exact d) (by omega)
    · rw [if_neg d]
      exact rlevel_l0 hr h0 h1 hn0 hn hv j (m + b) c k hc.symm (by omega) (by omega) (by simpa using d) (by rw [show m + b + 2 * c = m + 2 * b by omega]; exact p1) (by omega)
theorem rlevel_f {left r n : Int} {k : Nat} (hk : 1400 ≤ k) : lombardref08_Level.f k left r n = some (level left r n) := by
  obtain ⟨k, rfl⟩ : ∃ m, k = m + 1 := ⟨k - 1, by omega⟩
  have bad : ∀ (h : ¬(0 ≤ left ∧ left ≤ 10000000000000 ∧ okr r ∧ 1 ≤ n ∧ n ≤ 600)), lombardref08_Level.j0 (k + 1) left r n true = some (level left r n) := by
    intro h
    rw [lombardref08_Level.j0, if_pos rfl]
    unfold level
    rw [if_neg h]
  unfold lombardref08_Level.f
  by_cases c1 : left < 0
  · rw [if_pos c1]
    exact bad (by omega)
  rw [if_neg c1]
  by_cases c2 : left > 10000000000000
  · rw [if_pos c2]
    exact bad (by omega)
  rw [if_neg c2]
  by_cases c3 : r < 0
  · rw [if_pos c3]
    exact bad (by unfold okr; omega)
  rw [if_neg c3]
  by_cases c4 : r > 1000000000000
  · rw [if_pos c4]
    exact bad (by unfold okr; omega)
  rw [if_neg c4]
  by_cases c5 : n < 1
  · rw [if_pos c5]
    exact bad (by omega)
  rw [if_neg c5]
  by_cases c6 : n > 600
  · rw [decide_eq_true c6]
    exact bad (by omega)
  · have hr : okr r := ⟨by omega, by omega⟩
    have hv := lv_is (n := n.toNat) (left := left) hr (by omega) (by omega) (by omega)
    have b0 := nr_nn hr (x := left) (by omega)
    have b1 := nr_le hr (x := left) (by omega)
    rw [decide_eq_false c6, lombardref08_Level.j0, if_neg (by simp), rtest_f hr (by omega) (by omega) (by omega) (by omega) (by omega) (by omega) (by omega), Option.bind_some]
    have e : level left r n = (lv r n.toNat left, 0) := by
      unfold level
      rw [if_pos ⟨by omega, by omega, hr, by omega, by omega⟩]
    rw [e]
    by_cases d : pd r 0 n.toNat left = true
    · rw [if_pos d, hv.uniq ⟨Int.le_refl _, d, fun a h h' => by omega⟩]
    · rw [if_neg d]
      exact rlevel_l0 hr (by omega) (by omega) (by omega) (by omega) hv 46 0 _ k (by decide) (by omega) (by omega) (by simpa using d) (pd_mono hr (by omega) (pd_first (by omega))) (by omega)
end Go.Proofs.Ytchpeobenlnemaa.XPay
end

section
namespace Go.Proofs.Ytchpeobenlnemaa.S
open Go.RowKit Go.Proofs.YtchpeobenlnemaaW.PrintWords Go.Proofs.YtchpeobenlnemaaW.PrintLast Go.Proofs.YtchpeobenlnemaaW.PrintMore
attribute [local go_sem] max2_int min2_int max_two min_two max_three min_three max_four min_four   -- for this text's walks alone
attribute [local go_sem] Go.Proofs.Ytchpeobenlnemaa.XWalk.cell2
set_option linter.unusedVariables false
set_option linter.unusedSimpArgs false

/-! ### lombardref01_May: function 46 -/
def lombardref01_May.f (a0 : Int) : Option (Bool) := if a0 ≥ (-10000000000000) then (some (decide (a0 ≤ 10000000000000))) else (some false)
end Go.Proofs.Ytchpeobenlnemaa.S
end

section
namespace Go.Proofs.Ytchpeobenlnemaa.XMoney
set_option linter.unusedVariables false
set_option linter.unusedSimpArgs false
open Go.RowKit Go.Proofs.Ytchpeobenlnemaa.S Go.Proofs.Ytchpeobenlnemaa.XNum Go.Proofs.Ytchpeobenlnemaa.XBits Go.Proofs.Ytchpeobenlnemaa.XWide Go.Proofs.YtchpeobenlnemaaW.PrintWords

/-- A number, or that it is too great. -/
def told (n : Int) : Int × Int := if -9223372036854775808 ≤ n ∧ n ≤ 9223372036854775807 then (n, 0) else (0, 3)
theorem may (n : Int) : money_May.f n = some (decide (-10000000000000 ≤ n ∧ n ≤ 10000000000000)) := by
  unfold money_May.f
  split
  · congr 1
    rw [decide_eq_decide]
    omega
  · rw [decide_eq_false (by omega)]
theorem size {a : Int} (ha : I64 a) : money_size_int64.f a = some (if a < 0 then -a else a) := by
  obtain ⟨a0, a1⟩ := ha
  unfold money_size_int64.f
  split
  · rw [wu, wu]
    congr 1 <;> omega
  · rw [wu]
    congr 1 <;> omega
end Go.Proofs.Ytchpeobenlnemaa.XMoney
end

section
namespace Go.Proofs.Ytchpeobenlnemaa.XSum
set_option linter.unusedVariables false
set_option linter.unusedSimpArgs false
open Go.RowKit Go.Proofs.Ytchpeobenlnemaa.S Go.Proofs.Ytchpeobenlnemaa.XNum Go.Proofs.Ytchpeobenlnemaa.XBits Go.Proofs.Ytchpeobenlnemaa.XWide Go.Proofs.Ytchpeobenlnemaa.XMoney Go.Proofs.YtchpeobenlnemaaW.PrintWords

/-- all together -/
def tot : List Int → Int
  | [] => 0
  | x :: l => x + tot l
theorem tot_append (a b : List Int) : tot (a ++ b) = tot a + tot b := by
  induction a with
  | nil => simp [tot]
  | cons x a ih => simp only [List.cons_append, tot, ih]; omega
end Go.Proofs.Ytchpeobenlnemaa.XSum
end

section
namespace Go.Proofs.Ytchpeobenlnemaa.XSplit
set_option linter.unusedVariables false
set_option linter.unusedSimpArgs false
open Go.RowKit Go.Proofs.Ytchpeobenlnemaa.S Go.Proofs.Ytchpeobenlnemaa.XNum Go.Proofs.Ytchpeobenlnemaa.XBits Go.Proofs.Ytchpeobenlnemaa.XWide Go.Proofs.Ytchpeobenlnemaa.XMoney Go.Proofs.Ytchpeobenlnemaa.XSum Go.Proofs.YtchpeobenlnemaaW.PrintWords

/-- what is left over goes to the first weights that aren't 0, one to each -/
def dist : List Int → List Int → Int → List Int
  | w :: ws, q :: qs, L => if 0 < w ∧ 0 < L then (q + 1) :: dist ws qs (L - 1) else q :: dist ws qs L
  | _, qs, _ => qs
/-- how many weights aren't 0 -/
def pos : List Int → Int
  | [] => 0
  | w :: ws => (if 0 < w then 1 else 0) + pos ws
theorem dist_zero (ws qs : List Int) : dist ws qs 0 = qs := by
  induction ws generalizing qs with
  | nil => unfold dist; rfl
  | cons w ws ih =>
    cases qs with
    | nil => unfold dist; rfl
    | cons q qs => unfold dist; rw [if_neg (by omega), ih]
def may (n : Int) : Prop := -10000000000000 ≤ n ∧ n ≤ 10000000000000
instance (n : Int) : Decidable (may n) := inferInstanceAs (Decidable (_ ∧ _))
def okw (w : Int) : Prop := 0 ≤ w ∧ w ≤ 10000000000000
instance (w : Int) : Decidable (okw w) := inferInstanceAs (Decidable (_ ∧ _))
def size (n : Int) : Int := if n < 0 then -n else n
def one (n : Int) : Int := if n < 0 then -1 else 1
theorem one_or (n : Int) : one n = 1 ∨ one n = -1 := by unfold one; split <;> simp
theorem one_size (n : Int) : one n * size n = n := by unfold one size; split <;> omega
def quos (n : Int) (ws : List Int) (S : Int) : List Int := ws.map fun w => size n * w / S
def good (n : Int) (ws : List Int) : Prop := ws.length ≠ 0 ∧ ws.length ≤ 600 ∧ may n ∧ (∀ w ∈ ws, okw w) ∧ tot ws ≠ 0
instance (n : Int) (ws : List Int) : Decidable (good n ws) := inferInstanceAs (Decidable (_ ∧ _))
/-- the parts -/
def parts (n : Int) (ws : List Int) : List Int := (dist ws (quos n ws (tot ws)) (size n - tot (quos n ws (tot ws)))).map (one n * ·)
def splitS (n : Int) (ws : List Int) : List Int × Int := if good n ws then (parts n ws, 0) else ([], 2)

theorem tot_nn {l : List Int} (h : ∀ w ∈ l, okw w) : 0 ≤ tot l := by
  induction l with
  | nil => simp [tot]
  | cons x l ih =>
    have := h x (by simp)
    have := ih fun w hw => h w (by simp [hw])
    unfold okw at *
    unfold tot
    omega
theorem tot_le {l : List Int} (h : ∀ w ∈ l, okw w) : tot l ≤ 10000000000000 * l.length := by
  induction l with
  | nil => simp [tot]
  | cons x l ih =>
    have := h x (by simp)
    have := ih fun w hw => h w (by simp [hw])
    unfold okw at *
    unfold tot
    rw [List.length_cons]
    omega
theorem mem_le {l : List Int} (h : ∀ w ∈ l, okw w) {w : Int} (hw : w ∈ l) : w ≤ tot l := by
  induction l with
  | nil => cases hw
  | cons x l ih =>
    have a := h x (by simp)
    have b := fun w hw => h w (List.mem_cons_of_mem x hw)
    have c := tot_nn b
    unfold okw at a
    unfold tot
    rcases List.mem_cons.1 hw with rfl | hw
    · omega
    · have := ih b hw
      omega
theorem quo_bd {n w S : Int} (hn : may n) (hw : okw w) (hS : 0 < S) (hwS : w ≤ S) : 0 ≤ size n * w / S ∧ size n * w / S ≤ size n := by
  have a : 0 ≤ size n := by unfold size; split <;> omega
  have b : 0 ≤ size n * w := Int.mul_nonneg a hw.1
  refine ⟨Int.ediv_nonneg b (by omega), ?_⟩
  have c : size n * w ≤ size n * S := Int.mul_le_mul_of_nonneg_left hwS a
  exact Int.ediv_le_of_le_mul hS c
/-- what is left over is no less than 0, and no more than there are weights that aren't 0 -/
theorem over_bd {n S : Int} (hS : 0 < S) {l : List Int} (h : ∀ w ∈ l, okw w) :
    S * tot (quos n l S) ≤ size n * tot l ∧ size n * tot l ≤ S * tot (quos n l S) + S * pos l := by
  induction l with
  | nil => simp [quos, tot, pos]
  | cons x l ih =>
    have a := h x (by simp)
    obtain ⟨i1, i2⟩ := ih fun w hw => h w (List.mem_cons_of_mem x hw)
    unfold quos at *
    simp only [List.map_cons, tot, pos]
    have d := Int.mul_ediv_add_emod (size n * x) S
    have d0 := Int.emod_nonneg (size n * x) (show S ≠ 0 by omega)
    have d1 := Int.emod_lt_of_pos (size n * x) hS
    have e : x = 0 → size n * x = 0 ∧ size n * x / S = 0 := by
      intro hx
      subst hx
      simp
    rw [Int.mul_add, Int.mul_add, Int.mul_add]
    obtain ⟨a0, _⟩ := a
    generalize size n * x / S = q at *
    generalize size n * x % S = r at *
    by_cases c : 0 < x
    · rw [if_pos c, Int.mul_one]
      omega
    · obtain ⟨e1, e2⟩ := e (by omega)
      rw [if_neg c, e1, e2, Int.mul_zero]
      omega
theorem left_bd {n : Int} {ws : List Int} (h : good n ws) : 0 ≤ size n - tot (quos n ws (tot ws)) ∧ size n - tot (quos n ws (tot ws)) ≤ pos ws ∧ 0 ≤ tot (quos n ws (tot ws)) := by
  obtain ⟨_, _, _, hw, h0⟩ := h
  have hS : 0 < tot ws := by have := tot_nn hw; omega
  obtain ⟨a, b⟩ := over_bd (n := n) hS hw
  generalize hT : tot (quos n ws (tot ws)) = T at *
  have nn : 0 ≤ T := by
    rw [← hT]
    have : ∀ l : List Int, (∀ w ∈ l, okw w) → 0 ≤ tot (quos n l (tot ws)) := by
      intro l
      induction l with
      | nil => intro _; simp [quos, tot]
      | cons x l ih =>
        intro hl
        have := ih fun w hw => hl w (List.mem_cons_of_mem x hw)
        have s0 : 0 ≤ size n := by unfold size; split <;> omega
        have : 0 ≤ size n * x / tot ws := Int.ediv_nonneg (Int.mul_nonneg s0 (hl x (by simp)).1) (by omega)
        unfold quos at *
        simp only [List.map_cons, tot]
        omega
    exact this ws hw
  rw [Int.mul_comm (size n)] at a b
  refine ⟨?_, ?_, nn⟩
  · have := Int.le_of_mul_le_mul_left a hS
    omega
  · rw [← Int.mul_add] at b
    have := Int.le_of_mul_le_mul_left b hS
    omega

-- ------------------------------------------------ rows, by what lies ahead and behind
theorem rd_mid (A : List Int) (b : Int) (B : List Int) : rd (A ++ b :: B) (A.length : Int) = b := by
  unfold rd
  simp
theorem set_mid (A : List Int) (b v : Int) (B : List Int) : (A ++ b :: B).set ((A.length : Int)).toNat v = A ++ v :: B := by
  simp

-- ------------------------------------------------ package money
theorem pos_le (l : List Int) : pos l ≤ l.length := by
  induction l with
  | nil => simp [pos]
  | cons x l ih => unfold pos; rw [List.length_cons]; split <;> omega
theorem step_v {s b : Int} (hs : s = 1 ∨ s = -1) (h0 : 0 ≤ b) (h1 : b ≤ 10000000000000) : wrap64 (s * b + s) = s * (b + 1) := by
  rcases hs with rfl | rfl <;> (rw [w64 (by omega) (by omega)]; omega)
theorem step_u {s L : Int} (hs : s = 1 ∨ s = -1) (h0 : 0 ≤ L) (h1 : L ≤ 600) : wrap64 (s * L - s) = s * (L - 1) := by
  rcases hs with rfl | rfl <;> (rw [w64 (by omega) (by omega)]; omega)
theorem next_at {a n : Nat} (h : a + 1 < n) (hn : n ≤ 600) : Int.tmod (wrap64 ((a : Int) + 1)) (n : Int) = ((a + 1 : Nat) : Int) := by
  rw [w64 (by omega) (by omega), tm_nn (by omega), Int.emod_eq_of_lt (by omega) (by omega)]
  omega
theorem l2_stop {s : Int} {ws : List Int} (W A B : List Int) (j : Int) {k : Nat} (hk : 1 ≤ k) : money_Split.l2 k ws s (A ++ B.map (s * ·)) (s * 0) j = some (A ++ (dist W B 0).map (s * ·), 0) := by
  obtain ⟨k, rfl⟩ : ∃ m, k = m + 1 := ⟨k - 1, by omega⟩
  rw [money_Split.l2, if_pos (Int.mul_zero s), dist_zero]
/-- one place: one goes to it, or none -/
theorem l2_step {s : Int} (hs : s = 1 ∨ s = -1) {w b L : Int} {V W A B : List Int} (hl : A.length + W.length + 1 ≤ 600) (e2 : V.length = A.length) (e3 : W.length = B.length) (h0 : 0 < L) (h1 : L ≤ 600) (hb : 0 ≤ b ∧ b ≤ 10000000000000) (hw : 0 ≤ w) (k : Nat) :
    money_Split.l2 (k + 1) (V ++ w :: W) s (A ++ (b :: B).map (s * ·)) (s * L) A.length =
      if 0 < w then money_Split.l2 k (V ++ w :: W) s ((A ++ [s * (b + 1)]) ++ B.map (s * ·)) (s * (L - 1)) (Int.tmod (wrap64 ((A.length : Int) + 1)) ((V ++ w :: W).length : Int))
      else money_Split.l2 k (V ++ w :: W) s ((A ++ [s * b]) ++ B.map (s * ·)) (s * L) (Int.tmod (wrap64 ((A.length : Int) + 1)) ((V ++ w :: W).length : Int)) := by
  have nz : s * L ≠ 0 := by rcases hs with rfl | rfl <;> omega
  have lv : (V ++ w :: W).length = A.length + W.length + 1 := by simp; omega
  have la : (A ++ (b :: B).map (s * ·)).length = A.length + W.length + 1 := by simp; omega
  have rw1 : rd (V ++ w :: W) (A.length : Int) = w := by rw [← e2]; exact rd_mid V w W
  rw [money_Split.l2, if_neg nz, if_pos (by omega), lv, if_pos (by omega), rw1, la]
  by_cases c : 0 < w
  · rw [if_pos c, if_pos c, if_pos (by omega), if_neg (by omega), List.map_cons, rd_mid, set_mid, step_v hs hb.1 hb.2, step_u hs (by omega) h1]
    simp
  · rw [if_neg c, if_neg c, if_neg (by omega)]
    simp
theorem l2_run {s : Int} (hs : s = 1 ∨ s = -1) : ∀ (W V A B : List Int) (L : Int) (j : Int) (k : Nat), (V ++ W).length ≤ 600 → (∀ w ∈ W, okw w) → V.length = A.length → W.length = B.length → 0 ≤ L → L ≤ pos W →
    (∀ b ∈ B, 0 ≤ b ∧ b ≤ 10000000000000) → (0 < L → j = A.length) → W.length + 1 ≤ k → money_Split.l2 k (V ++ W) s (A ++ B.map (s * ·)) (s * L) j = some (A ++ (dist W B L).map (s * ·), 0) := by
  intro W
  induction W with
  | nil =>
    intro V A B L j k hl h e2 e3 h0 h1 hB hj hk
    have : L = 0 := by unfold pos at h1; omega
    subst this
    exact l2_stop [] A B j (by omega)
  | cons w W ih =>
    intro V A B L j k hl h e2 e3 h0 h1 hB hj hk
    by_cases c : L = 0
    · subst c
      exact l2_stop (w :: W) A B j (by omega)
    obtain ⟨k, rfl⟩ : ∃ m, k = m + 1 := ⟨k - 1, by omega⟩
    cases B with
    | nil => simp at e3
    | cons b B =>
      have hw := h w (by simp)
      have e3' : W.length = B.length := by simpa using e3
      have hp := pos_le (w :: W)
      rw [List.length_append, List.length_cons] at hl
      rw [List.length_cons] at hp hk
      rw [hj (by omega), l2_step hs (by omega) e2 e3' (by omega) (by omega) (hB b (by simp)) hw.1]
      have hlW : 0 < pos W → A.length + 1 < (V ++ w :: W).length := by
        intro hx
        have := pos_le W
        rw [List.length_append, List.length_cons]
        omega
      have hl' : ((V ++ [w]) ++ W).length ≤ 600 := by simp; omega
      have hB' : ∀ x ∈ B, 0 ≤ x ∧ x ≤ 10000000000000 := fun x hx => hB x (List.mem_cons_of_mem b hx)
      have h' : ∀ x ∈ W, okw x := fun x hx => h x (List.mem_cons_of_mem w hx)
      have lv : (V ++ w :: W).length ≤ 600 := by rw [List.length_append, List.length_cons]; omega
      rw [show V ++ w :: W = (V ++ [w]) ++ W by simp] at hlW lv ⊢
      rw [pos] at h1
      by_cases c1 : 0 < w
      · rw [if_pos c1] at h1 ⊢
        rw [ih (V ++ [w]) (A ++ [s * (b + 1)]) B (L - 1) _ k hl' h' (by simp [e2]) e3' (by omega) (by omega) hB' (fun hx => by
          rw [next_at (hlW (by omega)) lv]
          simp) (by omega)]
        rw [dist, if_pos ⟨c1, by omega⟩]
        simp
      · rw [if_neg c1] at h1 ⊢
        rw [ih (V ++ [w]) (A ++ [s * b]) B L _ k hl' h' (by simp [e2]) e3' h0 (by omega) hB' (fun hx => by
          rw [next_at (hlW (by omega)) lv]
          simp) (by omega)]
        rw [dist, if_neg (fun h => c1 h.1)]
        simp

theorem l1_run {n : Int} {ws : List Int} (h : good n ws) : ∀ (W V : List Int) (k : Nat), ws = V ++ W → W.length + ws.length + 40 ≤ k →
    money_Split.l1 k n ws (tot ws) (one n) ((quos n V (tot ws)).map (one n * ·)) (n - one n * tot (quos n V (tot ws))) ws ws.length V.length = some (parts n ws, 0) := by
  have hg := h
  obtain ⟨g1, g2, g3, g4, g5⟩ := h
  have hS : 0 < tot ws := by have := tot_nn g4; omega
  have hS1 := tot_le g4
  have hs := one_or n
  have n0 : 0 ≤ size n := by unfold size; split <;> omega
  have n1 : size n ≤ 10000000000000 := by unfold size; unfold may at g3; split <;> omega
  intro W
  induction W with
  | nil =>
    intro V k e hk
    obtain ⟨k, rfl⟩ : ∃ m, k = m + 1 := ⟨k - 1, by omega⟩
    rw [List.append_nil] at e
    subst e
    simp only [money_Split.l1]
    rw [if_neg (by omega)]
    have e1 : n - one n * tot (quos n ws (tot ws)) = one n * (size n - tot (quos n ws (tot ws))) := by rw [Int.mul_sub, one_size]
    rw [e1]
    have := l2_run hs ws [] [] (quos n ws (tot ws)) (size n - tot (quos n ws (tot ws))) 0 k (by simpa using g2) g4 (by simp) (by simp [quos]) (left_bd hg).1 (left_bd hg).2.1 (by
      intro b hb
      unfold quos at hb
      obtain ⟨w, hw, rfl⟩ := List.mem_map.1 hb
      have := quo_bd g3 (g4 w hw) hS (mem_le g4 hw)
      omega) (by simp) (by omega)
    simpa [parts] using this
  | cons w W ih =>
    intro V k e hk
    obtain ⟨k, rfl⟩ : ∃ m, k = m + 1 := ⟨k - 1, by omega⟩
    have lw : ws.length = V.length + W.length + 1 := by rw [e]; simp; omega
    have hw : w ∈ ws := by rw [e]; simp
    have hok := g4 w hw
    have hok' := hok
    obtain ⟨o0, o1⟩ := hok'
    have qb := quo_bd g3 hok hS (mem_le g4 hw)
    simp only [money_Split.l1]
    rw [if_pos (by omega), if_pos (by omega), if_pos (by omega), show rd ws (V.length : Int) = w by rw [e]; exact rd_mid V w W]
    rw [show money_size_int64.f n = some (size n) from XMoney.size (by unfold may at g3; constructor <;> omega)]
    simp only [Option.bind_some]
    rw [wu_id (n := w) o0 (by omega), mul64 n0 (by omega) o0 (by omega)]
    simp only [Option.bind_some]
    have hm : 0 ≤ size n * w := Int.mul_nonneg n0 o0
    have hm1 : size n * w < 18446744073709551616 * tot ws := by
      have a : size n * w ≤ size n * tot ws := Int.mul_le_mul_of_nonneg_left (mem_le g4 hw) n0
      have b : size n * tot ws < 18446744073709551616 * tot ws := Int.mul_lt_mul_of_pos_right (by omega) hS
      omega
    have hq : size n * w / 18446744073709551616 * 18446744073709551616 + size n * w % 18446744073709551616 = size n * w := by omega
    rw [wu_id (n := tot ws) (by omega) (by omega), div64 (by omega) (by omega) (by omega) (by omega) (by omega) (by omega), hq]
    simp only [Option.bind_some]
    rw [if_pos (by simp [quos]; omega), w64 (n := size n * w / tot ws) (by omega) (by omega)]
    have hT : 0 ≤ tot (quos n V (tot ws)) ∧ tot (quos n V (tot ws)) ≤ 10000000000000 * V.length := by
      have : ∀ x ∈ quos n V (tot ws), okw x := by
        intro b hb
        unfold quos at hb
        obtain ⟨v, hv, rfl⟩ := List.mem_map.1 hb
        have hv' : v ∈ ws := by rw [e]; simp [hv]
        have := quo_bd g3 (g4 v hv') hS (mem_le g4 hv')
        unfold okw
        omega
      refine ⟨tot_nn this, ?_⟩
      have := tot_le this
      simpa [quos] using this
    have e2 : wrap64 (one n * (size n * w / tot ws)) = one n * (size n * w / tot ws) := by
      rcases hs with hs | hs <;> rw [hs] <;> exact w64 (by omega) (by omega)
    have e3 : quos n (V ++ [w]) (tot ws) = quos n V (tot ws) ++ [size n * w / tot ws] := by simp [quos]
    have e4 : wrap64 (n - one n * tot (quos n V (tot ws)) - one n * (size n * w / tot ws)) = n - one n * tot (quos n (V ++ [w]) (tot ws)) := by
      rw [e3, tot_append]
      simp only [tot]
      unfold may at g3
      rcases hs with hs | hs <;> rw [hs] <;> (rw [w64 (by omega) (by omega)]; omega)
    rw [e2, e4, w64 (n := (V.length : Int) + 1) (by omega) (by omega)]
    have := ih (V ++ [w]) k (by rw [e]; simp) (by simp at hk; omega)
    rw [e3] at this ⊢
    simpa using this

theorem l0_run {n : Int} {ws : List Int} (hl : ws.length ≤ 600) (hn : ws.length ≠ 0) (hm : may n) : ∀ (W V : List Int) (k : Nat), ws = V ++ W → (∀ v ∈ V, okw v) → W.length + 2 * ws.length + 50 ≤ k →
    money_Split.l0 k n ws (tot V) ws ws.length V.length = some (splitS n ws) := by
  intro W
  induction W with
  | nil =>
    intro V k e hV hk
    obtain ⟨k, rfl⟩ : ∃ m, k = m + 2 := ⟨k - 2, by omega⟩
    rw [List.append_nil] at e
    subst e
    simp only [money_Split.l0]
    rw [if_neg (by omega)]
    by_cases c : tot ws = 0
    · rw [if_pos c]
      unfold splitS
      rw [if_neg (by unfold good; omega)]
    · rw [if_neg c]
      have g : good n ws := ⟨hn, hl, hm, hV, c⟩
      have : ∀ s, s = one n → money_Split.j2 (k + 1) n ws (tot ws) s = some (splitS n ws) := by
        intro s hs
        subst hs
        simp only [money_Split.j2]
        unfold splitS
        rw [if_pos g]
        have := l1_run g ws [] k (by simp) (by omega)
        simpa [quos, tot] using this
      unfold one at this
      by_cases d : n < 0
      · rw [if_pos d]
        exact this _ (by rw [if_pos d])
      · rw [if_neg d]
        exact this _ (by rw [if_neg d])
  | cons w W ih =>
    intro V k e hV hk
    obtain ⟨k, rfl⟩ : ∃ m, k = m + 1 := ⟨k - 1, by omega⟩
    have lw : ws.length = V.length + W.length + 1 := by rw [e]; simp; omega
    have hw : w ∈ ws := by rw [e]; simp
    have no : ¬okw w → splitS n ws = ([], 2) := by
      intro h
      unfold splitS
      rw [if_neg (fun g => h (g.2.2.2.1 w hw))]
    simp only [money_Split.l0]
    rw [if_pos (by omega), if_pos (by omega), if_pos (by omega), show rd ws (V.length : Int) = w by rw [e]; exact rd_mid V w W]
    by_cases c : w < 0
    · rw [if_pos c, no (by unfold okw; omega)]
    · rw [if_neg c, XMoney.may]
      simp only [Option.bind_some]
      by_cases d : w ≤ 10000000000000
      · rw [if_pos (by rw [decide_eq_true_iff]; omega), w64 (n := (V.length : Int) + 1) (by omega) (by omega)]
        have t := tot_le hV
        have t0 := tot_nn hV
        rw [w64 (n := tot V + w) (by omega) (by omega)]
        have := ih (V ++ [w]) k (by rw [e]; simp) (by
          intro v hv
          rcases List.mem_append.1 hv with hv | hv
          · exact hV v hv
          · rw [List.mem_singleton.1 hv]; unfold okw; omega) (by simp at hk; omega)
        rw [tot_append] at this
        simpa [tot] using this
      · rw [if_neg (by rw [decide_eq_true_iff]; omega), no (by unfold okw; omega)]

theorem split {n : Int} {ws : List Int} {k : Nat} (hk : 3 * ws.length + 60 ≤ k) : money_Split.f k n ws = some (splitS n ws) := by
  obtain ⟨k, rfl⟩ : ∃ m, k = m + 1 := ⟨k - 1, by omega⟩
  unfold money_Split.f
  have no : ¬(ws.length ≠ 0 ∧ ws.length ≤ 600 ∧ may n) → splitS n ws = ([], 2) := by
    intro h
    unfold splitS
    rw [if_neg (fun g => h ⟨g.1, g.2.1, g.2.2.1⟩)]
  by_cases c : (ws.length : Int) = 0
  · rw [if_pos c, no (by omega)]
    simp only [money_Split.j0, if_true]
  rw [if_neg c]
  by_cases d : (ws.length : Int) > 600
  · rw [if_pos d, no (by omega)]
    simp only [money_Split.j0, if_true]
  rw [if_neg d, XMoney.may]
  simp only [Option.bind_some]
  by_cases e : may n
  · unfold may at e
    rw [decide_eq_true e]
    simp only [money_Split.j0, Bool.not_true, Bool.false_eq_true, if_false]
    have := l0_run (n := n) (ws := ws) (by omega) (by omega) e ws [] k (by simp) (by simp) (by omega)
    simpa [tot] using this
  · rw [no (fun h => e h.2.2)]
    unfold may at e
    rw [decide_eq_false e]
    simp only [money_Split.j0, Bool.not_false, if_true]
end Go.Proofs.Ytchpeobenlnemaa.XSplit
end

section
namespace Go.Proofs.Ytchpeobenlnemaa.XSched
set_option linter.unusedVariables false
set_option linter.unusedSimpArgs false
open Go.RowKit Go.Proofs.Ytchpeobenlnemaa.S Go.Proofs.Ytchpeobenlnemaa.XNum Go.Proofs.Ytchpeobenlnemaa.XWide Go.Proofs.Ytchpeobenlnemaa.Rnd Go.Proofs.Ytchpeobenlnemaa.XMdiv Go.Proofs.Ytchpeobenlnemaa.XRate Go.Proofs.Ytchpeobenlnemaa.XPay Go.Proofs.Ytchpeobenlnemaa.XSum Go.Proofs.Ytchpeobenlnemaa.XSplit Go.Proofs.YtchpeobenlnemaaW.PrintWords Go.Proofs.YtchpeobenlnemaaW.PrintLast Go.Proofs.YtchpeobenlnemaaW.PrintMore

/-! ### may terms be? -/
def okt (kd pr : Int) (rates : List Int) (per : Int) : Prop := (1 ≤ kd ∧ kd ≤ 4) ∧ (1 ≤ pr ∧ pr ≤ 10000000000000) ∧ (1 ≤ per ∧ per ≤ 600) ∧ (1 ≤ (rates.length : Int) ∧ (rates.length : Int) ≤ per) ∧ ∀ r ∈ rates, okr r
instance (kd pr : Int) (rates : List Int) (per : Int) : Decidable (okt kd pr rates per) := inferInstanceAs (Decidable (_ ∧ _ ∧ _ ∧ _ ∧ _))
theorem rd_mem {l : List Int} {i : Int} (h0 : 0 ≤ i) (h1 : i < l.length) : rd l i ∈ l := by
  unfold rd
  have : i.toNat < l.length := by omega
  rw [List.getD_eq_getElem?_getD, List.getElem?_eq_getElem this, Option.getD_some]
  exact List.getElem_mem this
theorem has_l0 {l : List Int} (hn : l.length ≤ 600) : ∀ (d i k : Nat), i + d = l.length → d + 1 ≤ k → ∃ t, slices_IndexFunc_int64_int64__sched_Check_1.l0 k l l.length i = some t ∧ (0 ≤ t ↔ ¬∀ r ∈ l.drop i, okr r)
  | 0, i, k + 1, hi, _ => by
    refine ⟨-1, by rw [slices_IndexFunc_int64_int64__sched_Check_1.l0, if_neg (by omega)], ?_⟩
    rw [List.drop_eq_nil_of_le (by omega)]
    simp
  | d + 1, i, k + 1, hi, hk => by
    have hl : i < l.length := by omega
    rw [slices_IndexFunc_int64_int64__sched_Check_1.l0, if_pos (by omega), if_pos (by omega), if_pos (by omega), sched_Check_1.f, sched_may.f, within64, Option.bind_some, Option.bind_some, Option.bind_some]
    have e : rd l (i : Int) = l[i] := by
      unfold rd
      simp [hl]
    rw [List.drop_eq_getElem_cons hl, e]
    by_cases c : okr l[i]
    · rw [decide_eq_true (show 0 ≤ l[i] ∧ l[i] ≤ 1000000000000 from c), if_neg (by simp), w64 (by omega) (by omega)]
      obtain ⟨t, h1, h2⟩ := has_l0 hn d (i + 1) k (by omega) (by omega)
      refine ⟨t, by exact_mod_cast h1, ?_⟩
      rw [h2, List.forall_mem_cons]
      exact not_congr ⟨fun h => ⟨c, h⟩, fun h => h.2⟩
    · rw [decide_eq_false (show ¬(0 ≤ l[i] ∧ l[i] ≤ 1000000000000) from c), if_pos (by simp)]
      refine ⟨i, rfl, ?_⟩
      rw [List.forall_mem_cons]
      exact ⟨fun _ h => c h.1, fun _ => by omega⟩
theorem check_f {kd pr : Int} {rates : List Int} {per : Int} {k : Nat} (hk : 700 ≤ k) : sched_Check.f k kd pr rates per = some (if okt kd pr rates per then 0 else 2) := by
  unfold sched_Check.f
  rw [withinI, Option.bind_some]
  by_cases c1 : 1 ≤ kd ∧ kd ≤ 4
  · rw [if_pos (decide_eq_true c1), within64, Option.bind_some]
    by_cases c2 : 1 ≤ pr ∧ pr ≤ 10000000000000
    · rw [if_pos (decide_eq_true c2), withinI, Option.bind_some]
      by_cases c3 : 1 ≤ per ∧ per ≤ 600
      · rw [if_pos (decide_eq_true c3), withinI, Option.bind_some]
        by_cases c4 : 1 ≤ (rates.length : Int) ∧ (rates.length : Int) ≤ per
        · rw [if_pos (decide_eq_true c4)]
          unfold slices_ContainsFunc_int64_int64__sched_Check_1.f slices_IndexFunc_int64_int64__sched_Check_1.f
          obtain ⟨t, h1, h2⟩ := has_l0 (l := rates) (by omega) rates.length 0 k (by omega) (by omega)
          rw [show ((0 : Nat) : Int) = 0 from rfl] at h1
          rw [h1, Option.bind_some, Option.bind_some]
          rw [List.drop_zero] at h2
          by_cases c5 : ∀ r ∈ rates, okr r
          · rw [if_neg (by rw [decide_eq_true_iff]; exact fun h => (h2.1 h) c5), if_pos ⟨c1, c2, c3, c4, c5⟩]
          · rw [if_pos (decide_eq_true (h2.2 c5)), if_neg (fun h => c5 h.2.2.2.2)]
        · rw [if_neg (by rw [decide_eq_true_iff]; exact c4), if_neg (fun h => c4 h.2.2.2.1)]
      · rw [if_neg (by rw [decide_eq_true_iff]; exact c3), if_neg (fun h => c3 h.2.2.1)]
    · rw [if_neg (by rw [decide_eq_true_iff]; exact c2), if_neg (fun h => c2 h.2.1)]
  · rw [if_neg (by rw [decide_eq_true_iff]; exact c1), if_neg (fun h => c1 h.1)]

/-! ### an amount's equal parts -/
def ones (n : Nat) : List Int := List.replicate n 1
def eqs (P : Int) (n : Nat) : List Int := List.replicate (P % n).toNat (P / n + 1) ++ List.replicate (n - (P % n).toNat) (P / n)
theorem tot_rep (n : Nat) (x : Int) : tot (List.replicate n x) = n * x := by
  induction n with
  | zero => simp [tot]
  | succ n ih =>
    rw [List.replicate_succ, tot, ih]
    rw [show ((n + 1 : Nat) : Int) = n + 1 from by omega, Int.add_mul, Int.one_mul, Int.add_comm]
theorem dist_ones (q : Int) : ∀ (n L : Nat), L ≤ n → dist (ones n) (List.replicate n q) L = List.replicate L (q + 1) ++ List.replicate (n - L) q
  | n, 0, _ => by
    rw [show ((0 : Nat) : Int) = 0 from rfl, dist_zero]
    simp
  | n + 1, L + 1, h => by
    unfold ones
    rw [List.replicate_succ, List.replicate_succ, dist, if_pos (by omega), show ((L + 1 : Nat) : Int) - 1 = (L : Int) from by omega]
    have := dist_ones q n L (by omega)
    unfold ones at this
    rw [this, List.replicate_succ, show n + 1 - (L + 1) = n - L from by omega]
    rfl
theorem good_ones {P : Int} {n : Nat} (h0 : 1 ≤ P) (h1 : P ≤ 10000000000000) (n0 : 1 ≤ n) (n1 : n ≤ 600) : good P (ones n) := by
  refine ⟨by unfold ones; simp; omega, by unfold ones; simp; omega, ⟨by omega, by omega⟩, fun w hw => ?_, ?_⟩
  · have : w = 1 := List.eq_of_mem_replicate hw
    subst this
    exact ⟨by omega, by omega⟩
  · unfold ones
    rw [tot_rep]
    omega
theorem split_ones {P : Int} {n : Nat} (h0 : 1 ≤ P) (h1 : P ≤ 10000000000000) (n0 : 1 ≤ n) (n1 : n ≤ 600) : splitS P (ones n) = (eqs P n, 0) := by
  unfold splitS
  rw [if_pos (good_ones h0 h1 n0 n1)]
  have es : size P = P := by unfold size; rw [if_neg (by omega)]
  have eo : one P = 1 := by unfold one; rw [if_neg (by omega)]
  have et : tot (ones n) = n := by unfold ones; rw [tot_rep]; omega
  have eq_ : quos P (ones n) (n : Int) = List.replicate n (P / n) := by
    unfold quos ones
    rw [List.map_replicate, es, Int.mul_one]
  unfold parts
  rw [et, eq_, tot_rep, es, eo]
  have hm := Int.mul_ediv_add_emod P n
  have hlt := Int.emod_lt_of_pos P (show (0 : Int) < n by omega)
  have hnn := Int.emod_nonneg P (show (n : Int) ≠ 0 by omega)
  rw [show P - n * (P / n) = ((P % n).toNat : Int) from by omega, dist_ones _ _ _ (by omega)]
  unfold eqs
  simp
theorem eqs_tot {P : Int} {n : Nat} (n0 : 1 ≤ n) : tot (eqs P n) = P := by
  have hm := Int.mul_ediv_add_emod P n
  have hlt := Int.emod_lt_of_pos P (show (0 : Int) < n by omega)
  have hnn := Int.emod_nonneg P (show (n : Int) ≠ 0 by omega)
  unfold eqs
  rw [tot_append, tot_rep, tot_rep]
  obtain ⟨L, hL⟩ : ∃ L : Nat, (P % n).toNat = L := ⟨_, rfl⟩
  rw [hL]
  have e : ((n - L : Nat) : Int) = (n : Int) - L := by omega
  rw [e, Int.mul_add, Int.sub_mul, Int.mul_one]
  omega
theorem eqs_len {P : Int} {n : Nat} (n0 : 1 ≤ n) : (eqs P n).length = n := by
  have hlt := Int.emod_lt_of_pos P (show (0 : Int) < n by omega)
  unfold eqs
  simp
  omega
theorem eqs_nn {P : Int} {n : Nat} (hP : 0 ≤ P) (n0 : 1 ≤ n) : ∀ x ∈ eqs P n, 0 ≤ x := by
  intro x hx
  have hq : 0 ≤ P / (n : Int) := Int.ediv_nonneg hP (by omega)
  unfold eqs at hx
  rcases List.mem_append.1 hx with h | h
  · have := List.eq_of_mem_replicate h
    omega
  · have := List.eq_of_mem_replicate h
    omega

/-! ### the periods -/
/-- the level payment that holds in a period -/
def nlv (rates : List Int) (per at_ : Nat) (left lvl : Int) : Int := if (at_ : Int) = 0 ∨ sched_Build.rt rates at_ ≠ sched_Build.rt rates ((at_ : Int) - 1) then (level left (sched_Build.rt rates at_) ((per : Int) - at_)).1 else lvl
/-- what is paid, so many periods ahead of the last -/
def pay (kd : Int) (rates parts : List Int) (per d at_ : Nat) (left lvl : Int) : Int :=
  if d = 0 then left + nr (sched_Build.rt rates at_) left else if kd = 1 then mn (nlv rates per at_ left lvl) (left + nr (sched_Build.rt rates at_) left)
  else if kd = 2 then nr (sched_Build.rt rates at_) left + rd parts at_ else if kd = 3 then nr (sched_Build.rt rates at_) left else 0
def cons (x : S43) (q : List S43 × Int) : List S43 × Int := if q.2 = 0 then (x :: q.1, 0) else ([], q.2)
def fin (out : List S43) (q : List S43 × Int) : List S43 × Int := if q.2 = 0 then (out ++ q.1, 0) else ([], q.2)
theorem fin_cons (out : List S43) (x : S43) (q : List S43 × Int) : fin (out ++ [x]) q = fin out (cons x q) := by
  unfold fin cons
  split
  · simp
  · rfl
def bld (kd : Int) (rates parts : List Int) (per : Nat) : Nat → Nat → Int → Int → List S43 × Int
  | 0, _, _, _ => ([], 0)
  | d + 1, at_, left, lvl =>
    if left - (pay kd rates parts per d at_ left lvl - nr (sched_Build.rt rates at_) left) > 10000000000000 ∨ pay kd rates parts per d at_ left lvl > 10000000000000 then ([], 3)
    else cons ⟨nr (sched_Build.rt rates at_) left, pay kd rates parts per d at_ left lvl, pay kd rates parts per d at_ left lvl - nr (sched_Build.rt rates at_) left, left - (pay kd rates parts per d at_ left lvl - nr (sched_Build.rt rates at_) left)⟩
      (bld kd rates parts per d (at_ + 1) (left - (pay kd rates parts per d at_ left lvl - nr (sched_Build.rt rates at_) left)) (if kd = 1 then nlv rates per at_ left lvl else lvl))
structure Inv (kd : Int) (rates parts : List Int) (per d at_ : Nat) (left lvl : Int) : Prop where
  km : 1 ≤ kd ∧ kd ≤ 4
  sum : at_ + d = per
  pm : per ≤ 600
  r1 : 1 ≤ rates.length
  rs : ∀ r ∈ rates, okr r
  l0 : 0 ≤ left
  l1 : left ≤ 10000000000000
  v0 : 0 ≤ lvl
  v1 : lvl ≤ 20000000000000
  pt : kd = 2 → left = tot (parts.drop at_) ∧ parts.length = per ∧ ∀ x ∈ parts, 0 ≤ x
theorem rt_ok {rates : List Int} (r1 : 1 ≤ rates.length) (rs : ∀ r ∈ rates, okr r) {i : Int} (h : 0 ≤ i) : okr (sched_Build.rt rates i) := by
  unfold sched_Build.rt mn
  refine rs _ (rd_mem ?_ ?_) <;> split <;> omega
section
variable {kd : Int} {rates parts : List Int} {per d at_ : Nat} {left lvl : Int}
theorem Inv.rt (h : Inv kd rates parts per d at_ left lvl) : okr (sched_Build.rt rates at_) := rt_ok h.r1 h.rs (by omega)
theorem Inv.n0 (h : Inv kd rates parts per d at_ left lvl) : 0 ≤ nr (sched_Build.rt rates at_) left := nr_nn h.rt h.l0
theorem Inv.n1 (h : Inv kd rates parts per d at_ left lvl) : nr (sched_Build.rt rates at_) left ≤ left := nr_le h.rt h.l0
theorem Inv.lev (h : Inv kd rates parts per (d + 1) at_ left lvl) : level left (sched_Build.rt rates at_) ((per : Int) - at_) = (lv (sched_Build.rt rates at_) (d + 1) left, 0) := by
  have := h.sum
  have := h.pm
  unfold level
  rw [if_pos ⟨h.l0, h.l1, h.rt, by omega, by omega⟩, show ((per : Int) - at_).toNat = d + 1 from by omega]
theorem Inv.nl (h : Inv kd rates parts per (d + 1) at_ left lvl) : 0 ≤ nlv rates per at_ left lvl ∧ nlv rates per at_ left lvl ≤ 20000000000000 := by
  have a0 := h.n0
  have a1 := h.n1
  have a2 := h.l1
  unfold nlv
  split
  · rw [h.lev]
    have b0 := lv_nn h.rt (n := d + 1) (by omega) h.l0 h.l1
    have b1 := lv_le h.rt (n := d + 1) (by omega) h.l0 h.l1
    dsimp only
    omega
  · exact ⟨h.v0, h.v1⟩
theorem tot_drop {l : List Int} {i : Nat} (h : i < l.length) : tot (l.drop i) = rd l i + tot (l.drop (i + 1)) := by
  rw [List.drop_eq_getElem_cons h, tot]
  congr 1
  unfold rd
  simp [h]
theorem tot_nonneg {l : List Int} (h : ∀ x ∈ l, 0 ≤ x) : 0 ≤ tot l := by
  induction l with
  | nil => simp [tot]
  | cons x l ih =>
    have := h x (by simp)
    have := ih fun w hw => h w (by simp [hw])
    unfold tot
    omega
/-- what is paid, and what is left then -/
theorem Inv.paid (h : Inv kd rates parts per (d + 1) at_ left lvl) : 0 ≤ pay kd rates parts per d at_ left lvl ∧ pay kd rates parts per d at_ left lvl ≤ 20000000000000 ∧ 0 ≤ left - (pay kd rates parts per d at_ left lvl - nr (sched_Build.rt rates at_) left) ∧ left - (pay kd rates parts per d at_ left lvl - nr (sched_Build.rt rates at_) left) ≤ 20000000000000 ∧
    (kd = 2 → left - (pay kd rates parts per d at_ left lvl - nr (sched_Build.rt rates at_) left) = tot (parts.drop (at_ + 1)) ∧ 0 ≤ rd parts at_ ∧ rd parts at_ ≤ left) := by
  have a0 := h.n0
  have a1 := h.n1
  have a2 := h.l1
  have hs := h.sum
  obtain ⟨b0, b1⟩ := h.nl
  have k2 : kd = 2 → left = rd parts at_ + tot (parts.drop (at_ + 1)) ∧ 0 ≤ rd parts at_ ∧ 0 ≤ tot (parts.drop (at_ + 1)) ∧ (d = 0 → tot (parts.drop (at_ + 1)) = 0) := by
    intro hk
    obtain ⟨e, hl, hn⟩ := h.pt hk
    refine ⟨by rw [e]; exact tot_drop (by omega), hn _ (rd_mem (by omega) (by omega)), tot_nonneg (fun x hx => hn x (List.mem_of_mem_drop hx)), fun hd => ?_⟩
    rw [List.drop_eq_nil_of_le (by omega)]
    rfl
  have hp : pay kd rates parts per d at_ left lvl = if d = 0 then left + nr (sched_Build.rt rates at_) left else if kd = 1 then mn (nlv rates per at_ left lvl) (left + nr (sched_Build.rt rates at_) left) else if kd = 2 then nr (sched_Build.rt rates at_) left + rd parts at_ else if kd = 3 then nr (sched_Build.rt rates at_) left else 0 := rfl
  generalize nr (sched_Build.rt rates at_) left = n at *
  generalize nlv rates per at_ left lvl = v at *
  generalize tot (parts.drop (at_ + 1)) = T at *
  generalize rd parts at_ = R at *
  rw [hp]
  have hl0 := h.l0
  unfold mn
  by_cases hk : kd = 2
  · obtain ⟨e1, e2, e3, e4⟩ := k2 hk
    subst hk
    by_cases hd : d = 0
    · have := e4 hd
      rw [if_pos hd]
      omega
    · rw [if_neg hd, if_neg (by omega), if_pos rfl]
      omega
  · rw [if_neg hk]
    by_cases hd : d = 0
    · rw [if_pos hd]
      omega
    · rw [if_neg hd]
      by_cases c1 : kd = 1
      · rw [if_pos c1]
        split <;> omega
      · rw [if_neg c1]
        split <;> omega
theorem Inv.next (h : Inv kd rates parts per (d + 1) at_ left lvl) (hc : ¬(left - (pay kd rates parts per d at_ left lvl - nr (sched_Build.rt rates at_) left) > 10000000000000 ∨ pay kd rates parts per d at_ left lvl > 10000000000000)) :
    Inv kd rates parts per d (at_ + 1) (left - (pay kd rates parts per d at_ left lvl - nr (sched_Build.rt rates at_) left)) (if kd = 1 then nlv rates per at_ left lvl else lvl) := by
  obtain ⟨p0, p1, p2, p3, p4⟩ := h.paid
  have hs := h.sum
  have hn := h.nl
  have hv0 := h.v0
  have hv1 := h.v1
  refine ⟨h.km, by omega, h.pm, h.r1, h.rs, p2, by omega, ?_, ?_, fun hk => ⟨(p4 hk).1, (h.pt hk).2⟩⟩
  · split <;> omega
  · split <;> omega
/-- the program's rows -/
theorem rows_run : ∀ (d at_ : Nat) (left lvl : Int) (out : List S43) (n k : Nat), Inv kd rates parts per d at_ left lvl → d + 1 ≤ n → 800 ≤ k →
    sched_Build.rows k kd rates parts per n at_ left lvl out = some (fin out (bld kd rates parts per d at_ left lvl))
  | 0, at_, left, lvl, out, n + 1, k, h, _, hk => by
    have := h.sum
    rw [sched_Build.rows, if_neg (by omega)]
    unfold bld fin
    rw [if_pos rfl, List.append_nil]
  | d + 1, at_, left, lvl, out, n + 1, k, h, hn, hk => by
    have hs := h.sum
    have a0 := h.n0
    have a1 := h.n1
    have a2 := h.l0
    have a3 := h.l1
    have hpm := h.pm
    obtain ⟨p0, p1, p2, p3, p4⟩ := h.paid
    have hnl := h.nl
    have hnx := h.next
    have hlev := h.lev
    rw [sched_Build.rows, if_pos (by omega), interest_f ⟨by omega, by omega⟩ (by omega), int_eq h.rt a2 (by omega), Option.bind_some, if_pos rfl]
    dsimp only
    have q : (if (at_ : Int) < (per : Int) - 1 then sched_Build.pay k kd rates parts per at_ left lvl (nr (sched_Build.rt rates at_) left) else some (wrap64 (left + nr (sched_Build.rt rates at_) left), lvl)) =
        some (pay kd rates parts per d at_ left lvl, if d = 0 then lvl else if kd = 1 then nlv rates per at_ left lvl else lvl) := by
      rw [w64 (n := left + nr (sched_Build.rt rates at_) left) (by omega) (by omega)]
      by_cases c : d = 0
      · rw [if_neg (by omega)]
        unfold pay
        rw [if_pos c, if_pos c]
      · rw [if_pos (by omega), if_neg c]
        unfold sched_Build.pay pay
        rw [if_neg c]
        have hkm := h.km
        by_cases c1 : kd = 1
        · rw [if_pos c1, if_pos c1, if_pos c1, w64 (n := (per : Int) - at_) (by omega) (by omega), level_f hk, w64 (n := left + nr (sched_Build.rt rates at_) left) (by omega) (by omega)]
          unfold nlv
          split
          · rfl
          · rfl
        · rw [if_neg c1, if_neg c1, if_neg c1]
          by_cases c2 : kd = 2
          · obtain ⟨_, e1, e2⟩ := p4 c2
            rw [if_pos c2, if_pos c2, w64 (by omega) (by omega)]
          · rw [if_neg c2, if_neg c2]
            by_cases c3 : kd = 3
            · rw [if_pos c3, if_pos c3]
            · rw [if_neg c3, if_neg c3, if_pos (by omega)]
    rw [q, Option.bind_some]
    dsimp only
    conv => rhs; unfold bld
    generalize pay kd rates parts per d at_ left lvl = P at *
    generalize nr (sched_Build.rt rates at_) left = I at *
    rw [w64 (n := P - I) (by omega) (by omega), w64 (n := left - (P - I)) (by omega) (by omega)]
    by_cases c : left - (P - I) > 10000000000000 ∨ P > 10000000000000
    · rw [if_pos (by unfold mx; split <;> omega), if_pos c]
      rfl
    · rw [if_neg (by unfold mx; split <;> omega), if_neg c, show ((at_ : Int) + 1) = ((at_ + 1 : Nat) : Int) from by omega]
      have hnx' := hnx c
      have hn1 : (if d = 0 then lvl else if kd = 1 then nlv rates per at_ left lvl else lvl) = (if kd = 1 then nlv rates per at_ left lvl else lvl) ∨ d = 0 := by
        by_cases hd : d = 0
        · exact .inr hd
        · rw [if_neg hd]; exact .inl rfl
      rcases hn1 with e | hd
      · rw [e, rows_run d (at_ + 1) _ _ _ n k hnx' (by omega) hk, fin_cons]
      · subst hd
        rw [if_pos rfl]
        have hI : Inv kd rates parts per 0 (at_ + 1) (left - (P - I)) lvl := ⟨h.km, hnx'.sum, h.pm, h.r1, h.rs, hnx'.l0, hnx'.l1, h.v0, h.v1, hnx'.pt⟩
        rw [rows_run 0 (at_ + 1) _ _ _ n k hI (by omega) hk, fin_cons]
        rfl
end
/-- what Build comes to -/
def build (kd pr : Int) (rates : List Int) (per : Int) : List S43 × Int := if okt kd pr rates per then bld kd rates (eqs pr per.toNat) per.toNat per.toNat 0 pr 0 else ([], 2)
theorem inv0 {kd pr per : Int} {rates : List Int} (h : okt kd pr rates per) : Inv kd rates (eqs pr per.toNat) per.toNat per.toNat 0 pr 0 := by
  obtain ⟨h1, h2, h3, h4, h5⟩ := h
  refine ⟨h1, by omega, by omega, by omega, h5, by omega, h2.2, Int.le_refl _, by omega, fun _ => ⟨?_, eqs_len (by omega), eqs_nn (by omega) (by omega)⟩⟩
  rw [List.drop_zero, eqs_tot (by omega)]
theorem fin_nil (q : List S43 × Int) (h : q.2 = 0 ∨ q.1 = []) : fin [] q = q := by
  unfold fin
  obtain ⟨a, b⟩ := q
  split
  · rename_i c
    simp at c
    subst c
    rfl
  · rename_i c
    rcases h with h | h
    · exact absurd h c
    · simp at h
      subst h
      rfl
theorem cons_err {x : S43} {q : List S43 × Int} (h : q.2 = 0 ∨ q.1 = [] ∧ q.2 = 3) : (cons x q).2 = 0 ∨ (cons x q).1 = [] ∧ (cons x q).2 = 3 := by
  unfold cons
  by_cases c : q.2 = 0
  · rw [if_pos c]
    exact .inl rfl
  · rw [if_neg c]
    exact .inr ⟨rfl, (h.resolve_left c).2⟩
theorem bld_err (kd : Int) (rates parts : List Int) (per : Nat) : ∀ (d at_ : Nat) (left lvl : Int), (bld kd rates parts per d at_ left lvl).2 = 0 ∨ (bld kd rates parts per d at_ left lvl).1 = [] ∧ (bld kd rates parts per d at_ left lvl).2 = 3
  | 0, _, _, _ => .inl rfl
  | d + 1, at_, left, lvl => by
    unfold bld
    split
    · exact .inr ⟨rfl, rfl⟩
    · exact cons_err (bld_err kd rates parts per d _ _ _)
theorem build_f {kd pr per : Int} {rates : List Int} {k : Nat} (hk : 2000 ≤ k) : sched_Build.f k kd pr rates per = some (build kd pr rates per) := by
  unfold sched_Build.f build
  rw [check_f (by omega), Option.bind_some]
  by_cases c : okt kd pr rates per
  · obtain ⟨h1, h2, h3, h4, h5⟩ := id c
    have hp : ((per.toNat : Nat) : Int) = per := by omega
    rw [if_pos c, if_pos rfl, if_pos ⟨by omega, h1.1, h1.2, h3.1, h3.2, by omega, by omega⟩]
    have hs := split (n := pr) (ws := ones per.toNat) (k := k) (by unfold ones; simp; omega)
    rw [split_ones h2.1 h2.2 (by omega) (by omega)] at hs
    unfold ones at hs
    rw [hs, Option.bind_some, if_pos ⟨rfl, by rw [eqs_len (by omega)]; exact hp⟩, if_pos c]
    have hr := rows_run (per := per.toNat) per.toNat 0 pr 0 [] (per.toNat + 1) k (inv0 c) (by omega) (by omega)
    rw [hp] at hr
    rw [show (0 : Int) = ((0 : Nat) : Int) from rfl] 
    rw [show ((0 : Nat) : Int) = (0 : Int) from rfl] at hr ⊢
    rw [hr, fin_nil _ ((bld_err kd rates (eqs pr per.toNat) per.toNat per.toNat 0 pr 0).imp_right And.left)]
  · rw [if_neg c, if_neg (by omega), if_neg c]
end Go.Proofs.Ytchpeobenlnemaa.XSched
end

section
namespace Go.Proofs.Ytchpeobenlnemaa.SchedAlive
set_option linter.unusedVariables false
set_option linter.unusedSimpArgs false
open Go.RowKit Go.Proofs.Ytchpeobenlnemaa.S Go.Proofs.Ytchpeobenlnemaa.XPay Go.Proofs.Ytchpeobenlnemaa.XSched Go.Proofs.YtchpeobenlnemaaW.PrintWords Go.Proofs.YtchpeobenlnemaaW.PrintLast Go.Proofs.YtchpeobenlnemaaW.PrintMore

theorem alive {k : Nat} (hk : 2000 ≤ k) : lombardlaw08_alive.f k = some true := by
  unfold lombardlaw08_alive.f
  rw [build_f hk, Option.bind_some, level_f (by omega), Option.bind_some]
  decide +kernel
end Go.Proofs.Ytchpeobenlnemaa.SchedAlive
end

section
namespace Go.Proofs.Ytchpeobenlnemaa.Pure
set_option linter.unusedVariables false
set_option linter.unusedSimpArgs false
open Go.RowKit Go.Proofs.Ytchpeobenlnemaa.S Go.Proofs.Ytchpeobenlnemaa.XNum Go.Proofs.Ytchpeobenlnemaa.XPay Go.Proofs.Ytchpeobenlnemaa.SchedAlive Go.Proofs.YtchpeobenlnemaaW.PrintWords Go.Proofs.YtchpeobenlnemaaW.PrintLast

theorem SchedLevels : lombardlaw08_SchedLevels.Pure := by
  intro a0 a1 a2 _ _ _
  refine ⟨3000, ?_⟩
  have main : lombardlaw08_SchedLevels.j0 3000 a0 a1 a2 false = some true := by
    obtain ⟨k, hk⟩ : ∃ k : Nat, k = 2999 := ⟨_, rfl⟩
    rw [show 3000 = k + 1 from by omega, lombardlaw08_SchedLevels.j0, if_neg (by simp), level_f (by omega), Option.bind_some, rlevel_f (by omega), Option.bind_some, if_pos rfl, beq_self_eq_true]
  unfold lombardlaw08_SchedLevels.f
  rw [alive (by omega), Option.bind_some, if_pos rfl]
  by_cases c : a2 > 100
  · rw [if_pos c]
    by_cases d : a2 ≤ 600
    · rw [decide_eq_true d, lombardlaw08_SchedLevels.j0, if_pos rfl]
    · rw [decide_eq_false d]
      exact main
  · rw [if_neg c]
    exact main
end Go.Proofs.Ytchpeobenlnemaa.Pure
end

section
namespace Go.Proofs.Ytchpeobenlnemaa.schedLevels
open Go.ChangeShapes Go.WideShapes Go.ChangeAt Go.RowKit
open Go.ChangeMaps (open_string shut_string)
set_option linter.unusedVariables false
theorem own : ownKnob Try.prog.godebug = none := by kernel_rfl
set_option maxRecDepth 100000 in
theorem lifted (os : Os) (started : os.Started) (H : Type) (enc : TypeId × Value → H) :
    ReturnsInHanded {} Try.checked os 4 .any (Rows.schedLevelsSpec.pre6 enc Try.prog Try.f4 Rows.schedLevelsRow.domain false) (Rows.schedLevelsSpec.post enc Try.prog Try.f4 false true false false) := by
  refine returnsInHanded_of_change_sized (C := Try.checked) own started (by kernel_rfl) Try.func4
    (ChangeSpec.witness6 (enc := enc) (C := Try.checked) false ⟨#[], #[.int .i64 0, .int .i64 0, .int .i64 0], []⟩ 8 (by kernel_rfl) (by kernel_rfl) (by kernel_rfl) (by kernel_rfl)) ?_
  intro W base args ds gs before hval0 hW hcnd hsz0 _
  have hsz : (DataW.weightsEach Try.prog (Try.f4.params.toList ++ Rows.schedLevelsSpec.plain.varTypes Try.prog) (ds ++ gs)).all (· ≤ reachBytes) = true := hsz0
  have hval : ∀ (j : Nat) t v, Try.f4.params[j]? = some t → args[j]? = some v → Value.okWide Try.prog W .any base t v := hval0
  have hW' := hW
  obtain ⟨p, q, hA0, hV, rfl, hfz, hnd⟩ := hW
  have hA : DataW.TrodAll enc Try.prog W 0 (fun _ => true) true Try.f4.params.toList args.toList ds p := hA0
  rw [Try.params4] at hA hval hsz
  obtain ⟨v0, vs0, d0, ds0, p0, q0, hargs, rfl, rfl, h0, r0⟩ := trodAll_cons hA
  obtain ⟨v1, vs1, d1, ds1, p1, q1, rfl, rfl, rfl, h1, r1⟩ := trodAll_cons r0
  obtain ⟨v2, vs2, d2, ds2, p2, q2, rfl, rfl, rfl, h2, r2⟩ := trodAll_cons r1
  obtain ⟨rfl, rfl, rfl⟩ := trodAll_nil r2
  obtain rfl : args = #[v0, v1, v2] := by cases args; simp_all
  obtain ⟨rfl, rfl⟩ := trodVars_none hV
  obtain ⟨a0, rfl, rfl, rfl, w0⟩ := open_int Try.underlying2 (hval 0 2 v0 rfl rfl) h0
  obtain ⟨a1, rfl, rfl, rfl, w1⟩ := open_int Try.underlying2 (hval 1 2 v1 rfl rfl) h1
  obtain ⟨a2, rfl, rfl, rfl, w2⟩ := open_int Try.underlying3 (hval 2 3 v2 rfl rfl) h2
  clear hA0 hval0 hsz0 hsz
  refine (S.lombardlaw08_SchedLevels.walk Pure.SchedLevels a0 a1 a2 W w0 w1 w2).mono fun e W' ⟨he, bel⟩ => ?_
  subst he
  exact ⟨_, rfl, _, _, _, [], _, [], hW', trodAll_mk1 (shut_bool Try.underlying4 _), (trodAll_cons_mk (shut_int Try.underlying2 w0) (trodAll_cons_mk (shut_int Try.underlying2 w1) (trodAll_cons_mk (shut_int Try.underlying3 w2) trodAll_mk0))), rfl, bel.frame _, fun h => by cases h⟩
theorem over : Rows.schedLevelsRow.holds Try.pinned (OpenSpec.ofChange Rows.schedLevelsSpec) :=
  OpenClaim.holds_of_wide 4 Try.f4 rfl rfl rfl rfl rfl rfl rfl ⟨rfl, rfl, rfl, rfl, rfl⟩ rfl rfl rfl rfl rfl (by kernel_rfl) Try.func4 (by kernel_rfl)
    (of_decide_eq_true (by kernel_rfl)) (by unfold Func.isWrapper; first | (rw [if_pos (by decide +kernel)]; kernel_rfl) | (rw [if_neg (by decide +kernel)]; exact ⟨rfl, rfl⟩))
    (fun os started H enc _ => lifted os started H enc)
theorem proved : Rows.SchedLevelsSaid := over
#print axioms proved
end Go.Proofs.Ytchpeobenlnemaa.schedLevels
namespace Go.Proofs.Ytchpeobenlnemaa
/-- The row, under a short name, for the claim. -/
theorem schedLevels_holds : Rows.SchedLevelsSaid := schedLevels.proved
end Go.Proofs.Ytchpeobenlnemaa
end
