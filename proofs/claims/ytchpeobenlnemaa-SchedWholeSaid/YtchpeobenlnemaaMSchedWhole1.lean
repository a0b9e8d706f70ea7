/- Texts of the statement SchedWholeSaid, laid together. Conditions: none beyond those that each theorem names. -/
import Derived.Test.YtchpeobenlnemaaSx0
import Derived.Test.YtchpeobenlnemaaSxSchedLevel
import Derived.Test.YtchpeobenlnemaaMSchedWhole2
import Derived.Test.YtchpeobenlnemaaSxRateInterest
section
namespace Go.Proofs.Ytchpeobenlnemaa.S
open Go.RowKit Go.Proofs.YtchpeobenlnemaaW.PrintWords Go.Proofs.YtchpeobenlnemaaW.PrintLast Go.Proofs.YtchpeobenlnemaaW.PrintMore
attribute [local go_sem] max2_int min2_int max_two min_two max_three min_three max_four min_four   -- for this text's walks alone
attribute [local go_sem] Go.Proofs.Ytchpeobenlnemaa.XWalk.cell2
set_option linter.unusedVariables false
set_option linter.unusedSimpArgs false

theorem eqA43 (d : Nat) (w : World) (x0 y0 : Int) (x1 y1 : Int) (x2 y2 : Int) (x3 y3 : Int) :
    (Op.equalIn (d + 2) 43 (.agg #[.int .i64 x0, .int .i64 x1, .int .i64 x2, .int .i64 x3]) (.agg #[.int .i64 y0, .int .i64 y1, .int .i64 y2, .int .i64 y3])).run Try.prog w = .ok (x0 == y0 && (x1 == y1 && (x2 == y2 && (x3 == y3)))) w := by
  refine eqA_of Try.underlying43 (by kernel_rfl) ?_
  refine eqf_cons (by rfl) (by go_simp; rfl) (by go_simp; rfl) (by go_simp) ?_
  refine eqf_cons (by rfl) (by go_simp; rfl) (by go_simp; rfl) (by go_simp) ?_
  refine eqf_cons (by rfl) (by go_simp; rfl) (by go_simp; rfl) (by go_simp) ?_
  exact eqf_last (by rfl) (by go_simp; rfl) (by go_simp; rfl) (by go_simp)
end Go.Proofs.Ytchpeobenlnemaa.S
end

section
namespace Go.Proofs.Ytchpeobenlnemaa.S
open Go.RowKit Go.Proofs.YtchpeobenlnemaaW.PrintWords Go.Proofs.YtchpeobenlnemaaW.PrintLast Go.Proofs.YtchpeobenlnemaaW.PrintMore
attribute [local go_sem] max2_int min2_int max_two min_two max_three min_three max_four min_four   -- for this text's walks alone
attribute [local go_sem] Go.Proofs.Ytchpeobenlnemaa.XWalk.cell2
set_option linter.unusedVariables false
set_option linter.unusedSimpArgs false

attribute [local go_sem high] eqA43
/-! ### lombardlaw08_alive: function 9 -/
def lombardlaw08_alive.f (k : Nat)  : Option (Bool) := (sched_Build.f k 2 1000 (([10000000000] : List Int)) 4).bind fun bt197 => ((sched_Level.f k 1000 10000000000 4).bind fun bt201 => (if bt197.2 = 0 then (if (bt197.1.length : Int) = 4 then (if 1 < (bt197.1.length : Int) then (if (((rd_T43 bt197.1 1).f0) == 8 && (((rd_T43 bt197.1 1).f1) == 258 && (((rd_T43 bt197.1 1).f2) == 250 && (((rd_T43 bt197.1 1).f3) == 500)))) = true then (if 3 < (bt197.1.length : Int) then (if ((rd_T43 bt197.1 3).f1) = 252 then (if bt201.1 = 257 then (some (bt201.2 == 0)) else (some false)) else (some false)) else (none)) else (some false)) else (none)) else (some false)) else (some false)))
set_option maxHeartbeats 8000000 in
set_option maxRecDepth 100000 in
theorem lombardlaw08_alive.calls (k : Nat)  (r : Bool) (w : World) (h : lombardlaw08_alive.f k  = some r) :
    Calls Try.prog 9 #[] w fun e w' => e = .returned (.bool r) ∧ Below w.heap.size w w' := by
  have hu27 := Try.underlying27
  have hu43 := Try.underlying43
  have HB := Aside0.mk (Below.refl w.heap.size w)
  have H : ((sched_Build.f k 2 1000 (([10000000000] : List Int)) 4).bind fun bt197 => ((sched_Level.f k 1000 10000000000 4).bind fun bt201 => (if bt197.2 = 0 then (if (bt197.1.length : Int) = 4 then (if 1 < (bt197.1.length : Int) then (if (((rd_T43 bt197.1 1).f0) == 8 && (((rd_T43 bt197.1 1).f1) == 258 && (((rd_T43 bt197.1 1).f2) == 250 && (((rd_T43 bt197.1 1).f3) == 500)))) = true then (if 3 < (bt197.1.length : Int) then (if ((rd_T43 bt197.1 3).f1) = 252 then (if bt201.1 = 257 then (some (bt201.2 == 0)) else (some false)) else (some false)) else (none)) else (some false)) else (none)) else (some false)) else (some false)))) = some r := h
  clear h
  obtain ⟨y194, hy194⟩ : ∃ y_ : List Int, y_ = (([10000000000] : List Int)) := ⟨_, rfl⟩
  replace H : ((sched_Build.f k 2 1000 y194 4).bind fun bt197 => ((sched_Level.f k 1000 10000000000 4).bind fun bt201 => (if bt197.2 = 0 then (if (bt197.1.length : Int) = 4 then (if 1 < (bt197.1.length : Int) then (if (((rd_T43 bt197.1 1).f0) == 8 && (((rd_T43 bt197.1 1).f1) == 258 && (((rd_T43 bt197.1 1).f2) == 250 && (((rd_T43 bt197.1 1).f3) == 500)))) = true then (if 3 < (bt197.1.length : Int) then (if ((rd_T43 bt197.1 3).f1) = 252 then (if bt201.1 = 257 then (some (bt201.2 == 0)) else (some false)) else (some false)) else (none)) else (some false)) else (none)) else (some false)) else (some false)))) = some r := by first | (rw [hy194]; with_reducible exact H) | (have H2_ := (Option.bind_some _ _).symm.trans H; rw [hy194]; with_reducible exact H2_) | (have H2_ := (Option.bind_some _ _).symm.trans H; with_reducible exact H2_) | with_reducible exact H | (rw [hy194]; exact H) | exact H
  have Ny194 := Aside0.mk hy194
  clear hy194
  replace H := Option.bind_eq_some_iff.mp H
  obtain ⟨⟨t197, t200⟩, A10, H⟩ := H
  replace H : ((sched_Level.f k 1000 10000000000 4).bind fun bt201 => (if t200 = 0 then (if (t197.length : Int) = 4 then (if 1 < (t197.length : Int) then (if (((rd_T43 t197 1).f0) == 8 && (((rd_T43 t197 1).f1) == 258 && (((rd_T43 t197 1).f2) == 250 && (((rd_T43 t197 1).f3) == 500)))) = true then (if 3 < (t197.length : Int) then (if ((rd_T43 t197 3).f1) = 252 then (if bt201.1 = 257 then (some (bt201.2 == 0)) else (some false)) else (some false)) else (none)) else (some false)) else (none)) else (some false)) else (some false))) = some r := H
  have A1 := Aside0.mk A10
  clear A10
  replace H := Option.bind_eq_some_iff.mp H
  obtain ⟨⟨t201, t202⟩, A20, H⟩ := H
  replace H : (if t200 = 0 then (if (t197.length : Int) = 4 then (if 1 < (t197.length : Int) then (if (((rd_T43 t197 1).f0) == 8 && (((rd_T43 t197 1).f1) == 258 && (((rd_T43 t197 1).f2) == 250 && (((rd_T43 t197 1).f3) == 500)))) = true then (if 3 < (t197.length : Int) then (if ((rd_T43 t197 3).f1) = 252 then (if t201 = 257 then (some (t202 == 0)) else (some false)) else (some false)) else (none)) else (some false)) else (none)) else (some false)) else (some false)) = some r := H
  have A2 := Aside0.mk A20
  clear A20
  have HC3 := Aside0.mk H
  clear H
  go_enter Try.func9, Try.ntmps9
  go_upto_region 3 with (first | ((with_reducible refine gate_dst (N := 6) rfl ?_); (try (refine gate_guard (by rfl) ?_; dsimp only)); refine Kd.R_lit (Kd.int .i64) _ 2 ?hg (N := 6) ?hd (xs := ([10000000000] : List Int)) (inner := [.int .i64 10000000000]) (ok := fun _ => True) (okp := fun _ => True) ?hr ?hp (fun _ hk => hk) trivial (Below.refl _ _) (Nat.le_refl _) (by simp) ?_; (case hd => rfl); (case hg => rfl); (case hr => first | (go_simp; done) | (go_simp; rfl)); (case hp => exact (Reps.one (show Kd.M (Kd.int .i64) _ _ _ 10000000000 [.int .i64 10000000000] from rfl) (Reps.none _ _))); intro v195 w4 ho5 hb hg_ hnew_; clear hg_ hnew_; (first | rw [← Ny194.out] at ho5 | (simp only [Int.reduceToNat] at ho5; rw [← Ny194.out] at ho5)); have n0_ := Aside0.mk (Kd.R_lower ho5 (below_size (by repeat (first | (with_reducible first | exact HB.out | apply below_alloc | apply pw_below_drewN | apply below_drew1) | exact HB.out)))); have n1_ := Aside0.mk (below_step (by repeat (first | (with_reducible first | exact HB.out | apply below_alloc | apply pw_below_drewN | apply below_drew1) | exact HB.out)) hb); clear HB; have HO196 := n0_; have HB := n1_; clear n0_ n1_; clear hb ho5; obtain ⟨Ao6, co6, eo6⟩ := Kd.R_slice HO196.out; subst eo6) | ((with_reducible refine gate_callee (f := 11) rfl ?_); refine goesL_ (some 8) rfl rfl Try.func11 (by kernel_rfl) rfl #[.agg #[.int .i64 2, .int .i64 1000, .slice Ao6 y194.length co6, .int .i64 4]] rfl (by (try simp only [List.map_toArray, List.map_cons, List.map_nil]); first | done | rfl | (simp only [List.length_drop, List.length_take]; rfl)) ?_; (with_reducible refine (sched_Build.calls k 2 1000 _ _ y194 4 t197 t200 _ ?side1 ?side2 A1.out).mono ?_); (case side1 => repeat (first | exact (Kd.R_reads' HO196.out).2.2 | (with_reducible refine Kd.C_alloc ?_ _) | (with_reducible refine Kd.C_drewN ?_ _) | (with_reducible refine Kd.C_drew ?_))); (case side2 => exact (Kd.R_reads' HO196.out).2.1); rintro e w7 ⟨v198, rfl, ho0, hb⟩; refine ⟨_, rfl, ?_⟩; have n0_ := Aside0.mk (Kd.R_below (by (with_reducible repeat (first | apply Kd.R_alloc | apply Kd.R_drewN | apply Kd.R_drew)); exact HO196.out) hb); have n1_ := Aside0.mk (Kd.R_lower ho0 (below_size (by repeat (first | (with_reducible first | exact HB.out | apply below_alloc | apply pw_below_drewN | apply below_drew1) | exact HB.out)))); have n2_ := Aside0.mk (below_step (by repeat (first | (with_reducible first | exact HB.out | apply below_alloc | apply pw_below_drewN | apply below_drew1) | exact HB.out)) hb); clear HO196; clear HB; have HO196 := n0_; have HO199 := n1_; have HB := n2_; clear n0_ n1_ n2_; (try clear hb); (try clear hb2); (try clear hk); (try clear hi); (try clear ho0)) | ((with_reducible refine gate_callee (f := 17) rfl ?_); refine goesL_ (some 12) rfl rfl Try.func17 (by kernel_rfl) rfl #[.int .i64 1000, .int .i64 10000000000, .int .i64 4] rfl (by (try simp only [List.map_toArray, List.map_cons, List.map_nil]); first | done | rfl | (simp only [List.length_drop, List.length_take]; rfl)) ?_; (with_reducible refine (sched_Level.calls k 1000 10000000000 4 t201 t202 _ A2.out).mono ?_); rintro e w8 ⟨rfl, hb⟩; refine ⟨_, rfl, ?_⟩; have n0_ := Aside0.mk (Kd.R_below (by (with_reducible repeat (first | apply Kd.R_alloc | apply Kd.R_drewN | apply Kd.R_drew)); exact HO196.out) hb); have n1_ := Aside0.mk (Kd.R_below (by (with_reducible repeat (first | apply Kd.R_alloc | apply Kd.R_drewN | apply Kd.R_drew)); exact HO199.out) hb); have n2_ := Aside0.mk (below_step (by repeat (first | (with_reducible first | exact HB.out | apply below_alloc | apply pw_below_drewN | apply below_drew1) | exact HB.out)) hb); clear HO196; clear HO199; clear HB; have HO196 := n0_; have HO199 := n1_; have HB := n2_; clear n0_ n1_ n2_; (try clear hb); (try clear hb2); (try clear hk); (try clear hi)))
  have H := HC3.out
  clear HC3
  by_cases c9 : t200 = 0
  · rw [if_pos c9] at H
    have c9b0 : (t200 == 0) = true := beq_iff_eq.mpr c9
    have c9b1 : (t200 != 0) = false := bne_eq_false_iff_eq.mpr c9
    clear c9
    by_cases c10 : (t197.length : Int) = 4
    · rw [if_pos c10] at H
      have c10b0 : ((t197.length : Int) == 4) = true := beq_iff_eq.mpr c10
      have c10b1 : ((t197.length : Int) != 4) = false := bne_eq_false_iff_eq.mpr c10
      clear c10
      by_cases c11 : 1 < (t197.length : Int)
      · rw [if_pos c11] at H
        have c11b0 : decide (1 < (t197.length : Int)) = true := decide_eq_true c11
        have c11b1 : decide (1 < t197.length) = true := decide_eq_true (by omega)
        clear c11
        by_cases c12 : (((rd_T43 t197 1).f0) == 8 && (((rd_T43 t197 1).f1) == 258 && (((rd_T43 t197 1).f2) == 250 && (((rd_T43 t197 1).f3) == 500)))) = true
        · rw [if_pos c12] at H
          have c12b0 : (((rd_T43 t197 1).f0) == 8 && (((rd_T43 t197 1).f1) == 258 && (((rd_T43 t197 1).f2) == 250 && (((rd_T43 t197 1).f3) == 500)))) = true := c12
          (try (have c12b1 : decide (((rd_T43 t197 1).f0) = 8 && (((rd_T43 t197 1).f1) == 258 && (((rd_T43 t197 1).f2) == 250 && (((rd_T43 t197 1).f3) == 500)))) = true := by simpa using c12))
          (try (have c12b2 : (((rd_T43 t197 1).f0) == 8 && (((rd_T43 t197 1).f1) == 258 && (((rd_T43 t197 1).f2) == 250 && (((rd_T43 t197 1).f3) == 500)))) = true := by simpa using c12))
          clear c12
          by_cases c13 : 3 < (t197.length : Int)
          · rw [if_pos c13] at H
            have c13b0 : decide (3 < (t197.length : Int)) = true := decide_eq_true c13
            have c13b1 : decide (3 < t197.length) = true := decide_eq_true (by omega)
            clear c13
            by_cases c14 : ((rd_T43 t197 3).f1) = 252
            · rw [if_pos c14] at H
              have c14b0 : (((rd_T43 t197 3).f1) == 252) = true := beq_iff_eq.mpr c14
              have c14b1 : (((rd_T43 t197 3).f1) != 252) = false := bne_eq_false_iff_eq.mpr c14
              clear c14
              by_cases c15 : t201 = 257
              · rw [if_pos c15] at H
                have c15b0 : (t201 == 257) = true := beq_iff_eq.mpr c15
                have c15b1 : (t201 != 257) = false := bne_eq_false_iff_eq.mpr c15
                clear c15
                obtain rfl := Option.some.inj H
                obtain ⟨Ao16, co16, eo16⟩ := Kd.R_slice HO199.out
                subst eo16
                have p203 : 0 ≤ (1 : Int) := (by omega)
                have q203 : 1 < (t197.length : Int) := of_decide_eq_true (by first | (with_reducible assumption) | assumption)
                obtain ⟨ad203, e203, hx203_0, hx203_1, hx203_2, hx203_3⟩ := at_T43 (Kd.R_reads' HO199.out).2.2 1 p203 q203
                cases e203
                (try simp only [show (1 : Int).toNat = 1 from rfl, Nat.reduceMul, Nat.reduceEqDiff, Go.Addr.add, ↓reduceIte] at hx203_0)
                (try simp only [show (1 : Int).toNat = 1 from rfl, Nat.reduceMul, Nat.reduceEqDiff, Go.Addr.add, ↓reduceIte] at hx203_1)
                (try simp only [show (1 : Int).toNat = 1 from rfl, Nat.reduceMul, Nat.reduceEqDiff, Go.Addr.add, ↓reduceIte] at hx203_2)
                (try simp only [show (1 : Int).toNat = 1 from rfl, Nat.reduceMul, Nat.reduceEqDiff, Go.Addr.add, ↓reduceIte] at hx203_3)
                have qi203 : (1 < t197.length) = True := eq_true (by omega)
                (try rw [show ((1 : Int)).toNat = 1 from rfl] at hx203_0)
                (try rw [show 1 * 4 = 4 from rfl] at hx203_0)
                (try rw [show ((1 : Int)).toNat = 1 from rfl] at hx203_1)
                (try rw [show 1 * 4 = 4 from rfl] at hx203_1)
                (try rw [show ((1 : Int)).toNat = 1 from rfl] at hx203_2)
                (try rw [show 1 * 4 = 4 from rfl] at hx203_2)
                (try rw [show ((1 : Int)).toNat = 1 from rfl] at hx203_3)
                (try rw [show 1 * 4 = 4 from rfl] at hx203_3)
                replace p203 := eq_true p203
                replace q203 := eq_true q203
                have p204 : 0 ≤ (3 : Int) := (by omega)
                have q204 : 3 < (t197.length : Int) := of_decide_eq_true (by first | (with_reducible assumption) | assumption)
                obtain ⟨ad204, e204, hx204_0, hx204_1, hx204_2, hx204_3⟩ := at_T43 (Kd.R_reads' HO199.out).2.2 3 p204 q204
                obtain rfl : ad203 = ad204 := (by injection e204)
                (try simp only [show (3 : Int).toNat = 3 from rfl, Nat.reduceMul, Nat.reduceEqDiff, Go.Addr.add, ↓reduceIte] at hx204_0)
                (try simp only [show (3 : Int).toNat = 3 from rfl, Nat.reduceMul, Nat.reduceEqDiff, Go.Addr.add, ↓reduceIte] at hx204_1)
                (try simp only [show (3 : Int).toNat = 3 from rfl, Nat.reduceMul, Nat.reduceEqDiff, Go.Addr.add, ↓reduceIte] at hx204_2)
                (try simp only [show (3 : Int).toNat = 3 from rfl, Nat.reduceMul, Nat.reduceEqDiff, Go.Addr.add, ↓reduceIte] at hx204_3)
                have qi204 : (3 < t197.length) = True := eq_true (by omega)
                (try rw [show ((3 : Int)).toNat = 3 from rfl] at hx204_0)
                (try rw [show 3 * 4 = 12 from rfl] at hx204_0)
                (try rw [show ((3 : Int)).toNat = 3 from rfl] at hx204_1)
                (try rw [show 3 * 4 = 12 from rfl] at hx204_1)
                (try rw [show ((3 : Int)).toNat = 3 from rfl] at hx204_2)
                (try rw [show 3 * 4 = 12 from rfl] at hx204_2)
                (try rw [show ((3 : Int)).toNat = 3 from rfl] at hx204_3)
                (try rw [show 3 * 4 = 12 from rfl] at hx204_3)
                replace p204 := eq_true p204
                replace q204 := eq_true q204
                go_wp2
                go_ret
                exact ⟨by first | rfl | (simp [errW_none, errW_some] <;> rfl) | (simp [*, errW_none, errW_some] <;> rfl), by repeat (first | (with_reducible first | exact HB.out | apply below_alloc | apply pw_below_drewN | apply below_drew1) | exact HB.out)⟩
              · rw [if_neg c15] at H
                have c15b0 : (t201 == 257) = false := beq_eq_false_iff_ne.mpr c15
                have c15b1 : (t201 != 257) = true := bne_iff_ne.mpr c15
                obtain rfl := Option.some.inj H
                obtain ⟨Ao17, co17, eo17⟩ := Kd.R_slice HO199.out
                subst eo17
                have p203 : 0 ≤ (1 : Int) := (by omega)
                have q203 : 1 < (t197.length : Int) := of_decide_eq_true (by first | (with_reducible assumption) | assumption)
                obtain ⟨ad203, e203, hx203_0, hx203_1, hx203_2, hx203_3⟩ := at_T43 (Kd.R_reads' HO199.out).2.2 1 p203 q203
                cases e203
                (try simp only [show (1 : Int).toNat = 1 from rfl, Nat.reduceMul, Nat.reduceEqDiff, Go.Addr.add, ↓reduceIte] at hx203_0)
                (try simp only [show (1 : Int).toNat = 1 from rfl, Nat.reduceMul, Nat.reduceEqDiff, Go.Addr.add, ↓reduceIte] at hx203_1)
                (try simp only [show (1 : Int).toNat = 1 from rfl, Nat.reduceMul, Nat.reduceEqDiff, Go.Addr.add, ↓reduceIte] at hx203_2)
                (try simp only [show (1 : Int).toNat = 1 from rfl, Nat.reduceMul, Nat.reduceEqDiff, Go.Addr.add, ↓reduceIte] at hx203_3)
                have qi203 : (1 < t197.length) = True := eq_true (by omega)
                (try rw [show ((1 : Int)).toNat = 1 from rfl] at hx203_0)
                (try rw [show 1 * 4 = 4 from rfl] at hx203_0)
                (try rw [show ((1 : Int)).toNat = 1 from rfl] at hx203_1)
                (try rw [show 1 * 4 = 4 from rfl] at hx203_1)
                (try rw [show ((1 : Int)).toNat = 1 from rfl] at hx203_2)
                (try rw [show 1 * 4 = 4 from rfl] at hx203_2)
                (try rw [show ((1 : Int)).toNat = 1 from rfl] at hx203_3)
                (try rw [show 1 * 4 = 4 from rfl] at hx203_3)
                replace p203 := eq_true p203
                replace q203 := eq_true q203
                have p204 : 0 ≤ (3 : Int) := (by omega)
                have q204 : 3 < (t197.length : Int) := of_decide_eq_true (by first | (with_reducible assumption) | assumption)
                obtain ⟨ad204, e204, hx204_0, hx204_1, hx204_2, hx204_3⟩ := at_T43 (Kd.R_reads' HO199.out).2.2 3 p204 q204
                obtain rfl : ad203 = ad204 := (by injection e204)
                (try simp only [show (3 : Int).toNat = 3 from rfl, Nat.reduceMul, Nat.reduceEqDiff, Go.Addr.add, ↓reduceIte] at hx204_0)
                (try simp only [show (3 : Int).toNat = 3 from rfl, Nat.reduceMul, Nat.reduceEqDiff, Go.Addr.add, ↓reduceIte] at hx204_1)
                (try simp only [show (3 : Int).toNat = 3 from rfl, Nat.reduceMul, Nat.reduceEqDiff, Go.Addr.add, ↓reduceIte] at hx204_2)
                (try simp only [show (3 : Int).toNat = 3 from rfl, Nat.reduceMul, Nat.reduceEqDiff, Go.Addr.add, ↓reduceIte] at hx204_3)
                have qi204 : (3 < t197.length) = True := eq_true (by omega)
                (try rw [show ((3 : Int)).toNat = 3 from rfl] at hx204_0)
                (try rw [show 3 * 4 = 12 from rfl] at hx204_0)
                (try rw [show ((3 : Int)).toNat = 3 from rfl] at hx204_1)
                (try rw [show 3 * 4 = 12 from rfl] at hx204_1)
                (try rw [show ((3 : Int)).toNat = 3 from rfl] at hx204_2)
                (try rw [show 3 * 4 = 12 from rfl] at hx204_2)
                (try rw [show ((3 : Int)).toNat = 3 from rfl] at hx204_3)
                (try rw [show 3 * 4 = 12 from rfl] at hx204_3)
                replace p204 := eq_true p204
                replace q204 := eq_true q204
                go_wp2
                go_ret
                exact ⟨by first | rfl | (simp [errW_none, errW_some] <;> rfl) | (simp [*, errW_none, errW_some] <;> rfl), by repeat (first | (with_reducible first | exact HB.out | apply below_alloc | apply pw_below_drewN | apply below_drew1) | exact HB.out)⟩
            · rw [if_neg c14] at H
              have c14b0 : (((rd_T43 t197 3).f1) == 252) = false := beq_eq_false_iff_ne.mpr c14
              have c14b1 : (((rd_T43 t197 3).f1) != 252) = true := bne_iff_ne.mpr c14
              obtain rfl := Option.some.inj H
              obtain ⟨Ao18, co18, eo18⟩ := Kd.R_slice HO199.out
              subst eo18
              have p203 : 0 ≤ (1 : Int) := (by omega)
              have q203 : 1 < (t197.length : Int) := of_decide_eq_true (by first | (with_reducible assumption) | assumption)
              obtain ⟨ad203, e203, hx203_0, hx203_1, hx203_2, hx203_3⟩ := at_T43 (Kd.R_reads' HO199.out).2.2 1 p203 q203
              cases e203
              (try simp only [show (1 : Int).toNat = 1 from rfl, Nat.reduceMul, Nat.reduceEqDiff, Go.Addr.add, ↓reduceIte] at hx203_0)
              (try simp only [show (1 : Int).toNat = 1 from rfl, Nat.reduceMul, Nat.reduceEqDiff, Go.Addr.add, ↓reduceIte] at hx203_1)
              (try simp only [show (1 : Int).toNat = 1 from rfl, Nat.reduceMul, Nat.reduceEqDiff, Go.Addr.add, ↓reduceIte] at hx203_2)
              (try simp only [show (1 : Int).toNat = 1 from rfl, Nat.reduceMul, Nat.reduceEqDiff, Go.Addr.add, ↓reduceIte] at hx203_3)
              have qi203 : (1 < t197.length) = True := eq_true (by omega)
              (try rw [show ((1 : Int)).toNat = 1 from rfl] at hx203_0)
              (try rw [show 1 * 4 = 4 from rfl] at hx203_0)
              (try rw [show ((1 : Int)).toNat = 1 from rfl] at hx203_1)
              (try rw [show 1 * 4 = 4 from rfl] at hx203_1)
              (try rw [show ((1 : Int)).toNat = 1 from rfl] at hx203_2)
              (try rw [show 1 * 4 = 4 from rfl] at hx203_2)
              (try rw [show ((1 : Int)).toNat = 1 from rfl] at hx203_3)
              (try rw [show 1 * 4 = 4 from rfl] at hx203_3)
              replace p203 := eq_true p203
              replace q203 := eq_true q203
              have p204 : 0 ≤ (3 : Int) := (by omega)
              have q204 : 3 < (t197.length : Int) := of_decide_eq_true (by first | (with_reducible assumption) | assumption)
              obtain ⟨ad204, e204, hx204_0, hx204_1, hx204_2, hx204_3⟩ := at_T43 (Kd.R_reads' HO199.out).2.2 3 p204 q204
              obtain rfl : ad203 = ad204 := (by injection e204)
              (try simp only [show (3 : Int).toNat = 3 from rfl, Nat.reduceMul, Nat.reduceEqDiff, Go.Addr.add, ↓reduceIte] at hx204_0)
              (try simp only [show (3 : Int).toNat = 3 from rfl, Nat.reduceMul, Nat.reduceEqDiff, Go.Addr.add, ↓reduceIte] at hx204_1)
              (try simp only [show (3 : Int).toNat = 3 from rfl, Nat.reduceMul, Nat.reduceEqDiff, Go.Addr.add, ↓reduceIte] at hx204_2)
              (try simp only [show (3 : Int).toNat = 3 from rfl, Nat.reduceMul, Nat.reduceEqDiff, Go.Addr.add, ↓reduceIte] at hx204_3)
              have qi204 : (3 < t197.length) = True := eq_true (by omega)
              (try rw [show ((3 : Int)).toNat = 3 from rfl] at hx204_0)
              (try rw [show 3 * 4 = 12 from rfl] at hx204_0)
              (try rw [show ((3 : Int)).toNat = 3 from rfl] at hx204_1)
              (try rw [show 3 * 4 = 12 from rfl] at hx204_1)
              (try rw [show ((3 : Int)).toNat = 3 from rfl] at hx204_2)
              (try rw [show 3 * 4 = 12 from rfl] at hx204_2)
              (try rw [show ((3 : Int)).toNat = 3 from rfl] at hx204_3)
              (try rw [show 3 * 4 = 12 from rfl] at hx204_3)
              replace p204 := eq_true p204
              replace q204 := eq_true q204
              go_wp2
              go_ret
              exact ⟨by first | rfl | (simp [errW_none, errW_some] <;> rfl) | (simp [*, errW_none, errW_some] <;> rfl), by repeat (first | (with_reducible first | exact HB.out | apply below_alloc | apply pw_below_drewN | apply below_drew1) | exact HB.out)⟩
          · rw [if_neg c13] at H
            exact absurd H (by simp)
        · rw [if_neg c12] at H
          have c12b0 : (((rd_T43 t197 1).f0) == 8 && (((rd_T43 t197 1).f1) == 258 && (((rd_T43 t197 1).f2) == 250 && (((rd_T43 t197 1).f3) == 500)))) = false := by simpa using c12
          (try (have c12b1 : decide (((rd_T43 t197 1).f0) = 8 && (((rd_T43 t197 1).f1) == 258 && (((rd_T43 t197 1).f2) == 250 && (((rd_T43 t197 1).f3) == 500)))) = false := by simpa using c12))
          (try (have c12b2 : (((rd_T43 t197 1).f0) == 8 && (((rd_T43 t197 1).f1) == 258 && (((rd_T43 t197 1).f2) == 250 && (((rd_T43 t197 1).f3) == 500)))) = false := by simpa using c12))
          (try (have c12b3 : ¬ (((rd_T43 t197 1).f0) = 8 && (((rd_T43 t197 1).f1) == 258 && (((rd_T43 t197 1).f2) == 250 && (((rd_T43 t197 1).f3) == 500)))) := by simpa using c12))
          clear c12
          obtain rfl := Option.some.inj H
          obtain ⟨Ao19, co19, eo19⟩ := Kd.R_slice HO199.out
          subst eo19
          have p203 : 0 ≤ (1 : Int) := (by omega)
          have q203 : 1 < (t197.length : Int) := of_decide_eq_true (by first | (with_reducible assumption) | assumption)
          obtain ⟨ad203, e203, hx203_0, hx203_1, hx203_2, hx203_3⟩ := at_T43 (Kd.R_reads' HO199.out).2.2 1 p203 q203
          cases e203
          (try simp only [show (1 : Int).toNat = 1 from rfl, Nat.reduceMul, Nat.reduceEqDiff, Go.Addr.add, ↓reduceIte] at hx203_0)
          (try simp only [show (1 : Int).toNat = 1 from rfl, Nat.reduceMul, Nat.reduceEqDiff, Go.Addr.add, ↓reduceIte] at hx203_1)
          (try simp only [show (1 : Int).toNat = 1 from rfl, Nat.reduceMul, Nat.reduceEqDiff, Go.Addr.add, ↓reduceIte] at hx203_2)
          (try simp only [show (1 : Int).toNat = 1 from rfl, Nat.reduceMul, Nat.reduceEqDiff, Go.Addr.add, ↓reduceIte] at hx203_3)
          have qi203 : (1 < t197.length) = True := eq_true (by omega)
          (try rw [show ((1 : Int)).toNat = 1 from rfl] at hx203_0)
          (try rw [show 1 * 4 = 4 from rfl] at hx203_0)
          (try rw [show ((1 : Int)).toNat = 1 from rfl] at hx203_1)
          (try rw [show 1 * 4 = 4 from rfl] at hx203_1)
          (try rw [show ((1 : Int)).toNat = 1 from rfl] at hx203_2)
          (try rw [show 1 * 4 = 4 from rfl] at hx203_2)
          (try rw [show ((1 : Int)).toNat = 1 from rfl] at hx203_3)
          (try rw [show 1 * 4 = 4 from rfl] at hx203_3)
          replace p203 := eq_true p203
          replace q203 := eq_true q203
          go_wp2
          go_ret
          exact ⟨by first | rfl | (simp [errW_none, errW_some] <;> rfl) | (simp [*, errW_none, errW_some] <;> rfl), by repeat (first | (with_reducible first | exact HB.out | apply below_alloc | apply pw_below_drewN | apply below_drew1) | exact HB.out)⟩
      · rw [if_neg c11] at H
        exact absurd H (by simp)
    · rw [if_neg c10] at H
      have c10b0 : ((t197.length : Int) == 4) = false := beq_eq_false_iff_ne.mpr c10
      have c10b1 : ((t197.length : Int) != 4) = true := bne_iff_ne.mpr c10
      obtain rfl := Option.some.inj H
      obtain ⟨Ao20, co20, eo20⟩ := Kd.R_slice HO199.out
      subst eo20
      go_wp2
      go_ret
      exact ⟨by first | rfl | (simp [errW_none, errW_some] <;> rfl) | (simp [*, errW_none, errW_some] <;> rfl), by repeat (first | (with_reducible first | exact HB.out | apply below_alloc | apply pw_below_drewN | apply below_drew1) | exact HB.out)⟩
  · rw [if_neg c9] at H
    have c9b0 : (t200 == 0) = false := beq_eq_false_iff_ne.mpr c9
    have c9b1 : (t200 != 0) = true := bne_iff_ne.mpr c9
    obtain rfl := Option.some.inj H
    go_wp2
    go_ret
    exact ⟨by first | rfl | (simp [errW_none, errW_some] <;> rfl) | (simp [*, errW_none, errW_some] <;> rfl), by repeat (first | (with_reducible first | exact HB.out | apply below_alloc | apply pw_below_drewN | apply below_drew1) | exact HB.out)⟩

end Go.Proofs.Ytchpeobenlnemaa.S
end

section
namespace Go.Proofs.Ytchpeobenlnemaa.S
open Go.RowKit Go.Proofs.YtchpeobenlnemaaW.PrintWords Go.Proofs.YtchpeobenlnemaaW.PrintLast Go.Proofs.YtchpeobenlnemaaW.PrintMore
attribute [local go_sem] max2_int min2_int max_two min_two max_three min_three max_four min_four   -- for this text's walks alone
attribute [local go_sem] Go.Proofs.Ytchpeobenlnemaa.XWalk.cell2
set_option linter.unusedVariables false
set_option linter.unusedSimpArgs false

/-! ### lombardlaw08_great: function 10 -/
def lombardlaw08_great.f (a0_0 : Int) (a0_1 : Int) (l0_2 : List Int) (a0_3 : Int) : Option (Bool) := if (l0_2.length : Int) > 60 then (some true) else (if a0_3 > 60 then (some (decide (a0_3 ≤ 600))) else (some false))
set_option maxHeartbeats 8000000 in
set_option maxRecDepth 100000 in
theorem lombardlaw08_great.calls (a0_0 : Int) (a0_1 : Int) (A0_2 : Option Addr) (c0_2 : Nat) (l0_2 : List Int) (a0_3 : Int) (r : Bool) (w : World) (hr0_2 : Kd.C (Kd.int .i64) w A0_2 l0_2.length l0_2) (hc0_2 : l0_2.length ≤ c0_2) (h : lombardlaw08_great.f a0_0 a0_1 l0_2 a0_3 = some r) :
    Calls Try.prog 10 #[.agg #[.int .i64 a0_0, .int .i64 a0_1, .slice A0_2 l0_2.length c0_2, .int .i64 a0_3]] w fun e w' => e = .returned (.bool r) ∧ Below w.heap.size w w' := by
  have hu24 := Try.underlying24
  have HR0_2 := Aside0.mk hr0_2
  have HC0_2 := Aside0.mk hc0_2
  clear hr0_2 hc0_2
  have HB := Aside0.mk (Below.refl w.heap.size w)
  have H : (if (l0_2.length : Int) > 60 then (some true) else (if a0_3 > 60 then (some (decide (a0_3 ≤ 600))) else (some false))) = some r := h
  clear h
  have HC2 := Aside0.mk H
  clear H
  go_enter Try.func10, Try.ntmps10
  go_upto_region 1 with (first | ((with_reducible refine gate_dst (N := 1) rfl ?_); refine box_event ?hg (N := 1) ?hd (cs := #[.int .i64 a0_0, .int .i64 a0_1, .slice A0_2 l0_2.length c0_2, .int .i64 a0_3]) (t := 24) ?hr ?_; (case hd => rfl); (case hg => rfl); (case hr => first | (go_simp; done) | (go_simp; rfl)); intro gb205 hg w3 hbox hb; have n0_ := Aside0.mk (below_step (by repeat (first | (with_reducible first | exact HB.out | apply below_alloc | apply pw_below_drewN | apply below_drew1) | exact HB.out)) hb); have n1_ := Aside0.mk (hbox); have n2_ := Aside0.mk ((by rw [hg]; exact (below_size (by repeat (first | (with_reducible first | exact HB.out | apply below_alloc | apply pw_below_drewN | apply below_drew1) | exact HB.out))) : w.heap.size ≤ gb205)); have n3_ := Aside0.mk ((by rw [hg]; exact (below_size (by repeat (first | (with_reducible first | exact HB.out | apply below_alloc | apply pw_below_drewN | apply below_drew1) | exact HB.out))) : w.heap.size ≤ gb205)); clear HB; have HB := n0_; have BK205 := n1_; have GW205 := n2_; have GE205 := n3_; clear n0_ n1_ n2_ n3_; clear hb hbox hg))
  have H := HC2.out
  clear HC2
  by_cases c4 : (l0_2.length : Int) > 60
  · rw [if_pos c4] at H
    have c4b0 : decide (60 < (l0_2.length : Int)) = true := decide_eq_true c4
    have c4b1 : decide (60 < l0_2.length) = true := decide_eq_true (by omega)
    clear c4
    obtain rfl := Option.some.inj H
    have hcz5_0 : w3.cell? ⟨gb205, 0, none⟩ = some (.int .i64 a0_0) := (blk_cell BK205.out 0).trans rfl
    have hcz5_1 : w3.cell? ⟨gb205, 1, none⟩ = some (.int .i64 a0_1) := (blk_cell BK205.out 1).trans rfl
    have hcz5_2 : w3.cell? ⟨gb205, 2, none⟩ = some (.slice A0_2 l0_2.length c0_2) := (blk_cell BK205.out 2).trans rfl
    have hcz5_3 : w3.cell? ⟨gb205, 3, none⟩ = some (.int .i64 a0_3) := (blk_cell BK205.out 3).trans rfl
    have hfz5_0 := blk_frozen BK205.out 0
    have hfz5_1 := blk_frozen BK205.out 1
    have hfz5_2 := blk_frozen BK205.out 2
    have hfz5_3 := blk_frozen BK205.out 3
    go_wp2
    go_ret
    exact ⟨by first | rfl | (simp [errW_none, errW_some] <;> rfl) | (simp [*, errW_none, errW_some] <;> rfl), by repeat (first | (with_reducible first | exact HB.out | apply below_alloc | apply pw_below_drewN | apply below_drew1 | refine below_set ?_ GE205.out) | exact HB.out)⟩
  · rw [if_neg c4] at H
    have c4b0 : decide (60 < (l0_2.length : Int)) = false := decide_eq_false c4
    have c4b1 : decide (60 < l0_2.length) = false := decide_eq_false (by omega)
    clear c4
    by_cases c6 : a0_3 > 60
    · rw [if_pos c6] at H
      have c6b0 : decide (60 < a0_3) = true := decide_eq_true c6
      clear c6
      obtain rfl := Option.some.inj H
      have hcz7_0 : w3.cell? ⟨gb205, 0, none⟩ = some (.int .i64 a0_0) := (blk_cell BK205.out 0).trans rfl
      have hcz7_1 : w3.cell? ⟨gb205, 1, none⟩ = some (.int .i64 a0_1) := (blk_cell BK205.out 1).trans rfl
      have hcz7_2 : w3.cell? ⟨gb205, 2, none⟩ = some (.slice A0_2 l0_2.length c0_2) := (blk_cell BK205.out 2).trans rfl
      have hcz7_3 : w3.cell? ⟨gb205, 3, none⟩ = some (.int .i64 a0_3) := (blk_cell BK205.out 3).trans rfl
      have hfz7_0 := blk_frozen BK205.out 0
      have hfz7_1 := blk_frozen BK205.out 1
      have hfz7_2 := blk_frozen BK205.out 2
      have hfz7_3 := blk_frozen BK205.out 3
      go_wp2
      go_ret
      exact ⟨by first | rfl | (simp [errW_none, errW_some] <;> rfl) | (simp [*, errW_none, errW_some] <;> rfl), by repeat (first | (with_reducible first | exact HB.out | apply below_alloc | apply pw_below_drewN | apply below_drew1 | refine below_set ?_ GE205.out) | exact HB.out)⟩
    · rw [if_neg c6] at H
      have c6b0 : decide (60 < a0_3) = false := decide_eq_false c6
      clear c6
      obtain rfl := Option.some.inj H
      have hcz8_0 : w3.cell? ⟨gb205, 0, none⟩ = some (.int .i64 a0_0) := (blk_cell BK205.out 0).trans rfl
      have hcz8_1 : w3.cell? ⟨gb205, 1, none⟩ = some (.int .i64 a0_1) := (blk_cell BK205.out 1).trans rfl
      have hcz8_2 : w3.cell? ⟨gb205, 2, none⟩ = some (.slice A0_2 l0_2.length c0_2) := (blk_cell BK205.out 2).trans rfl
      have hcz8_3 : w3.cell? ⟨gb205, 3, none⟩ = some (.int .i64 a0_3) := (blk_cell BK205.out 3).trans rfl
      have hfz8_0 := blk_frozen BK205.out 0
      have hfz8_1 := blk_frozen BK205.out 1
      have hfz8_2 := blk_frozen BK205.out 2
      have hfz8_3 := blk_frozen BK205.out 3
      go_wp2
      go_ret
      exact ⟨by first | rfl | (simp [errW_none, errW_some] <;> rfl) | (simp [*, errW_none, errW_some] <;> rfl), by repeat (first | (with_reducible first | exact HB.out | apply below_alloc | apply pw_below_drewN | apply below_drew1 | refine below_set ?_ GE205.out) | exact HB.out)⟩

end Go.Proofs.Ytchpeobenlnemaa.S
end

section
namespace Go.Proofs.Ytchpeobenlnemaa.S
open Go.RowKit Go.Proofs.YtchpeobenlnemaaW.PrintWords Go.Proofs.YtchpeobenlnemaaW.PrintLast Go.Proofs.YtchpeobenlnemaaW.PrintMore
attribute [local go_sem] max2_int min2_int max_two min_two max_three min_three max_four min_four   -- for this text's walks alone
attribute [local go_sem] Go.Proofs.Ytchpeobenlnemaa.XWalk.cell2
set_option linter.unusedVariables false
set_option linter.unusedSimpArgs false

/-! ### lombardlaw08_SchedWhole: function 5 -/
def lombardlaw08_SchedWhole.l0 : Nat → List (S43) → Int → Int → Int → Int → List (S43) → Int → Int → Int → Int → List Int → Int → Option (Bool)
  | 0, _, _, _, _, _, _, _, _, _, _, _, _ => none
  | k + 1, x3, x5, x6, x7, x8, x29, x30, x31, x305000, x305001, x305002, x305003 => if x31 < x30 then (if 0 ≤ x31 then (if x31 < (x29.length : Int) then (if 0 ≤ (mn x31 (wrap64 ((x305002.length : Int) - 1))) then (if (mn x31 (wrap64 ((x305002.length : Int) - 1))) < (x305002.length : Int) then ((rate_Interest.f k x5 (rd x305002 (mn x31 (wrap64 ((x305002.length : Int) - 1))))).bind fun bt314 => (if bt314.2 = 0 then (if ((rd_T43 x29 x31).f0) = bt314.1 then (if ((rd_T43 x29 x31).f1) = (wrap64 (((rd_T43 x29 x31).f0) + ((rd_T43 x29 x31).f2))) then (if ((rd_T43 x29 x31).f3) = (wrap64 (x5 - ((rd_T43 x29 x31).f2))) then (if ((rd_T43 x29 x31).f1) < 0 then (some false) else (if ((rd_T43 x29 x31).f3) < 0 then (some false) else (if ((rd_T43 x29 x31).f3) > 10000000000000 then (some false) else (lombardlaw08_SchedWhole.l0 k x3 ((rd_T43 x29 x31).f3) (wrap64 (x6 + ((rd_T43 x29 x31).f2))) (wrap64 (x7 + ((rd_T43 x29 x31).f0))) (wrap64 (x8 + ((rd_T43 x29 x31).f1))) x29 x30 (wrap64 (x31 + 1)) x305000 x305001 x305002 x305003)))) else (some false)) else (some false)) else (some false)) else (some false))) else (none)) else (none)) else (none)) else (none)) else (if (x3.length : Int) = x305003 then (if x5 = 0 then (if x6 = x305001 then (some (x8 == (wrap64 (x6 + x7)))) else (some false)) else (some false)) else (some false))
def lombardlaw08_SchedWhole.f (k : Nat) (a0_0 : Int) (a0_1 : Int) (l0_2 : List Int) (a0_3 : Int) : Option (Bool) := (lombardlaw08_alive.f k).bind fun t305 => (if t305 = true then ((lombardlaw08_great.f a0_0 a0_1 l0_2 a0_3).bind fun t306 => (if t306 = true then (some true) else ((sched_Build.f k a0_0 a0_1 l0_2 a0_3).bind fun bt307 => (if bt307.2 = 0 then (lombardlaw08_SchedWhole.l0 k bt307.1 a0_1 0 0 0 bt307.1 (bt307.1.length : Int) 0 a0_0 a0_1 l0_2 a0_3) else (some ((bt307.1.length : Int) == 0)))))) else (some false))
set_option maxHeartbeats 8000000 in
set_option maxRecDepth 100000 in
theorem lombardlaw08_SchedWhole.calls (k : Nat) (a0_0 : Int) (a0_1 : Int) (A0_2 : Option Addr) (c0_2 : Nat) (l0_2 : List Int) (a0_3 : Int) (r : Bool) (w : World) (hr0_2 : Kd.C (Kd.int .i64) w A0_2 l0_2.length l0_2) (hc0_2 : l0_2.length ≤ c0_2) (h : lombardlaw08_SchedWhole.f k a0_0 a0_1 l0_2 a0_3 = some r) :
    Calls Try.prog 5 #[.agg #[.int .i64 a0_0, .int .i64 a0_1, .slice A0_2 l0_2.length c0_2, .int .i64 a0_3]] w fun e w' => e = .returned (.bool r) ∧ Below w.heap.size w w' := by
  have hu24 := Try.underlying24
  have hu43 := Try.underlying43
  have HR0_2 := Aside0.mk hr0_2
  have HC0_2 := Aside0.mk hc0_2
  clear hr0_2 hc0_2
  have HB := Aside0.mk (Below.refl w.heap.size w)
  have H : ((lombardlaw08_alive.f k).bind fun t305 => (if t305 = true then ((lombardlaw08_great.f a0_0 a0_1 l0_2 a0_3).bind fun t306 => (if t306 = true then (some true) else ((sched_Build.f k a0_0 a0_1 l0_2 a0_3).bind fun bt307 => (if bt307.2 = 0 then (lombardlaw08_SchedWhole.l0 k bt307.1 a0_1 0 0 0 bt307.1 (bt307.1.length : Int) 0 a0_0 a0_1 l0_2 a0_3) else (some ((bt307.1.length : Int) == 0)))))) else (some false))) = some r := h
  clear h
  replace H := Option.bind_eq_some_iff.mp H
  obtain ⟨t305, A20, H⟩ := H
  replace H : (if t305 = true then ((lombardlaw08_great.f a0_0 a0_1 l0_2 a0_3).bind fun t306 => (if t306 = true then (some true) else ((sched_Build.f k a0_0 a0_1 l0_2 a0_3).bind fun bt307 => (if bt307.2 = 0 then (lombardlaw08_SchedWhole.l0 k bt307.1 a0_1 0 0 0 bt307.1 (bt307.1.length : Int) 0 a0_0 a0_1 l0_2 a0_3) else (some ((bt307.1.length : Int) == 0)))))) else (some false)) = some r := H
  have A2 := Aside0.mk A20
  clear A20
  by_cases c3 : t305 = true
  · subst c3
    have H1 : ((lombardlaw08_great.f a0_0 a0_1 l0_2 a0_3).bind fun t306 => (if t306 = true then (some true) else ((sched_Build.f k a0_0 a0_1 l0_2 a0_3).bind fun bt307 => (if bt307.2 = 0 then (lombardlaw08_SchedWhole.l0 k bt307.1 a0_1 0 0 0 bt307.1 (bt307.1.length : Int) 0 a0_0 a0_1 l0_2 a0_3) else (some ((bt307.1.length : Int) == 0)))))) = some r := by rw [if_pos rfl] at H; exact H
    clear H
    have H := H1
    clear H1
    replace H := Option.bind_eq_some_iff.mp H
    obtain ⟨t306, A40, H⟩ := H
    replace H : (if t306 = true then (some true) else ((sched_Build.f k a0_0 a0_1 l0_2 a0_3).bind fun bt307 => (if bt307.2 = 0 then (lombardlaw08_SchedWhole.l0 k bt307.1 a0_1 0 0 0 bt307.1 (bt307.1.length : Int) 0 a0_0 a0_1 l0_2 a0_3) else (some ((bt307.1.length : Int) == 0))))) = some r := H
    have A4 := Aside0.mk A40
    clear A40
    by_cases c5 : t306 = true
    · subst c5
      have H1 : (some true) = some r := by rw [if_pos rfl] at H; exact H
      clear H
      have H := H1
      clear H1
      obtain rfl := Option.some.inj H
      go_enter Try.func5, Try.ntmps5
      go_wp2_with (first | ((with_reducible refine gate_dst (N := 1) rfl ?_); refine box_event ?hg (N := 1) ?hd (cs := #[.int .i64 a0_0, .int .i64 a0_1, .slice A0_2 l0_2.length c0_2, .int .i64 a0_3]) (t := 24) ?hr ?_; (case hd => rfl); (case hg => rfl); (case hr => first | (go_simp; done) | (go_simp; rfl)); intro gb304 hg w6 hbox hb; have n0_ := Aside0.mk (below_step (by repeat (first | (with_reducible first | exact HB.out | apply below_alloc | apply pw_below_drewN | apply below_drew1) | exact HB.out)) hb); have n1_ := Aside0.mk (hbox); have n2_ := Aside0.mk ((by rw [hg]; exact (below_size (by repeat (first | (with_reducible first | exact HB.out | apply below_alloc | apply pw_below_drewN | apply below_drew1) | exact HB.out))) : w.heap.size ≤ gb304)); have n3_ := Aside0.mk ((by rw [hg]; exact (below_size (by repeat (first | (with_reducible first | exact HB.out | apply below_alloc | apply pw_below_drewN | apply below_drew1) | exact HB.out))) : w.heap.size ≤ gb304)); clear HB; have HB := n0_; have BK304 := n1_; have GW304 := n2_; have GE304 := n3_; clear n0_ n1_ n2_ n3_; clear hb hbox hg) | (go_at_call 9; (with_reducible refine (lombardlaw08_alive.calls k  true _ A2.out).mono ?_); rintro e w7 ⟨rfl, hb⟩; have n0_ := Aside0.mk (blk_below (g := gb304) (o := .cells #[.int .i64 a0_0, .int .i64 a0_1, .slice A0_2 l0_2.length c0_2, .int .i64 a0_3] 24 (0, 0)) (by (with_reducible repeat (first | refine blk_drewN ?_ _ | refine blk_drew ?_ | refine blk_alloc ?_ _)); exact BK304.out) hb); have n1_ := Aside0.mk (below_step (by repeat (first | (with_reducible first | exact HB.out | apply below_alloc | apply pw_below_drewN | apply below_drew1 | refine below_set ?_ GE304.out) | exact HB.out)) hb); clear BK304; clear HB; have BK304 := n0_; have HB := n1_; clear n0_ n1_; (try clear hb); (try clear hb2); (try clear hk); (try clear hi); have hcz8_0 : w7.cell? ⟨gb304, 0, none⟩ = some (.int .i64 a0_0) := (blk_cell BK304.out 0).trans rfl; have hcz8_1 : w7.cell? ⟨gb304, 1, none⟩ = some (.int .i64 a0_1) := (blk_cell BK304.out 1).trans rfl; have hcz8_2 : w7.cell? ⟨gb304, 2, none⟩ = some (.slice A0_2 l0_2.length c0_2) := (blk_cell BK304.out 2).trans rfl; have hcz8_3 : w7.cell? ⟨gb304, 3, none⟩ = some (.int .i64 a0_3) := (blk_cell BK304.out 3).trans rfl; have hfz8_0 := blk_frozen BK304.out 0; have hfz8_1 := blk_frozen BK304.out 1; have hfz8_2 := blk_frozen BK304.out 2; have hfz8_3 := blk_frozen BK304.out 3) | (go_at_call 10; (with_reducible refine (lombardlaw08_great.calls a0_0 a0_1 _ _ l0_2 a0_3 true _ ?side1 ?side2 A4.out).mono ?_); (case side1 => repeat (first | exact (Kd.C_below HR0_2.out HB.out) | (with_reducible refine Kd.C_alloc ?_ _) | (with_reducible refine Kd.C_drewN ?_ _) | (with_reducible refine Kd.C_drew ?_))); (case side2 => exact HC0_2.out); rintro e w9 ⟨rfl, hb⟩; have n0_ := Aside0.mk (blk_below (g := gb304) (o := .cells #[.int .i64 a0_0, .int .i64 a0_1, .slice A0_2 l0_2.length c0_2, .int .i64 a0_3] 24 (0, 0)) (by (with_reducible repeat (first | refine blk_drewN ?_ _ | refine blk_drew ?_ | refine blk_alloc ?_ _)); exact BK304.out) hb); have n1_ := Aside0.mk (below_step (by repeat (first | (with_reducible first | exact HB.out | apply below_alloc | apply pw_below_drewN | apply below_drew1 | refine below_set ?_ GE304.out) | exact HB.out)) hb); clear BK304; clear HB; have BK304 := n0_; have HB := n1_; clear n0_ n1_; (try clear hb); (try clear hb2); (try clear hk); (try clear hi)))
      repeat (go_quiet (first | ((with_reducible refine gate_dst (N := 1) rfl ?_); refine box_event ?hg (N := 1) ?hd (cs := #[.int .i64 a0_0, .int .i64 a0_1, .slice A0_2 l0_2.length c0_2, .int .i64 a0_3]) (t := 24) ?hr ?_; (case hd => rfl); (case hg => rfl); (case hr => first | (go_simp; done) | (go_simp; rfl)); intro gb304 hg w6 hbox hb; have n0_ := Aside0.mk (below_step (by repeat (first | (with_reducible first | exact HB.out | apply below_alloc | apply pw_below_drewN | apply below_drew1) | exact HB.out)) hb); have n1_ := Aside0.mk (hbox); have n2_ := Aside0.mk ((by rw [hg]; exact (below_size (by repeat (first | (with_reducible first | exact HB.out | apply below_alloc | apply pw_below_drewN | apply below_drew1) | exact HB.out))) : w.heap.size ≤ gb304)); have n3_ := Aside0.mk ((by rw [hg]; exact (below_size (by repeat (first | (with_reducible first | exact HB.out | apply below_alloc | apply pw_below_drewN | apply below_drew1) | exact HB.out))) : w.heap.size ≤ gb304)); clear HB; have HB := n0_; have BK304 := n1_; have GW304 := n2_; have GE304 := n3_; clear n0_ n1_ n2_ n3_; clear hb hbox hg) | (go_at_call 9; (with_reducible refine (lombardlaw08_alive.calls k  true _ A2.out).mono ?_); rintro e w7 ⟨rfl, hb⟩; have n0_ := Aside0.mk (blk_below (g := gb304) (o := .cells #[.int .i64 a0_0, .int .i64 a0_1, .slice A0_2 l0_2.length c0_2, .int .i64 a0_3] 24 (0, 0)) (by (with_reducible repeat (first | refine blk_drewN ?_ _ | refine blk_drew ?_ | refine blk_alloc ?_ _)); exact BK304.out) hb); have n1_ := Aside0.mk (below_step (by repeat (first | (with_reducible first | exact HB.out | apply below_alloc | apply pw_below_drewN | apply below_drew1 | refine below_set ?_ GE304.out) | exact HB.out)) hb); clear BK304; clear HB; have BK304 := n0_; have HB := n1_; clear n0_ n1_; (try clear hb); (try clear hb2); (try clear hk); (try clear hi); have hcz8_0 : w7.cell? ⟨gb304, 0, none⟩ = some (.int .i64 a0_0) := (blk_cell BK304.out 0).trans rfl; have hcz8_1 : w7.cell? ⟨gb304, 1, none⟩ = some (.int .i64 a0_1) := (blk_cell BK304.out 1).trans rfl; have hcz8_2 : w7.cell? ⟨gb304, 2, none⟩ = some (.slice A0_2 l0_2.length c0_2) := (blk_cell BK304.out 2).trans rfl; have hcz8_3 : w7.cell? ⟨gb304, 3, none⟩ = some (.int .i64 a0_3) := (blk_cell BK304.out 3).trans rfl; have hfz8_0 := blk_frozen BK304.out 0; have hfz8_1 := blk_frozen BK304.out 1; have hfz8_2 := blk_frozen BK304.out 2; have hfz8_3 := blk_frozen BK304.out 3) | (go_at_call 10; (with_reducible refine (lombardlaw08_great.calls a0_0 a0_1 _ _ l0_2 a0_3 true _ ?side1 ?side2 A4.out).mono ?_); (case side1 => repeat (first | exact (Kd.C_below HR0_2.out HB.out) | (with_reducible refine Kd.C_alloc ?_ _) | (with_reducible refine Kd.C_drewN ?_ _) | (with_reducible refine Kd.C_drew ?_))); (case side2 => exact HC0_2.out); rintro e w9 ⟨rfl, hb⟩; have n0_ := Aside0.mk (blk_below (g := gb304) (o := .cells #[.int .i64 a0_0, .int .i64 a0_1, .slice A0_2 l0_2.length c0_2, .int .i64 a0_3] 24 (0, 0)) (by (with_reducible repeat (first | refine blk_drewN ?_ _ | refine blk_drew ?_ | refine blk_alloc ?_ _)); exact BK304.out) hb); have n1_ := Aside0.mk (below_step (by repeat (first | (with_reducible first | exact HB.out | apply below_alloc | apply pw_below_drewN | apply below_drew1 | refine below_set ?_ GE304.out) | exact HB.out)) hb); clear BK304; clear HB; have BK304 := n0_; have HB := n1_; clear n0_ n1_; (try clear hb); (try clear hb2); (try clear hk); (try clear hi))); try go_wp2_with (first | ((with_reducible refine gate_dst (N := 1) rfl ?_); refine box_event ?hg (N := 1) ?hd (cs := #[.int .i64 a0_0, .int .i64 a0_1, .slice A0_2 l0_2.length c0_2, .int .i64 a0_3]) (t := 24) ?hr ?_; (case hd => rfl); (case hg => rfl); (case hr => first | (go_simp; done) | (go_simp; rfl)); intro gb304 hg w6 hbox hb; have n0_ := Aside0.mk (below_step (by repeat (first | (with_reducible first | exact HB.out | apply below_alloc | apply pw_below_drewN | apply below_drew1) | exact HB.out)) hb); have n1_ := Aside0.mk (hbox); have n2_ := Aside0.mk ((by rw [hg]; exact (below_size (by repeat (first | (with_reducible first | exact HB.out | apply below_alloc | apply pw_below_drewN | apply below_drew1) | exact HB.out))) : w.heap.size ≤ gb304)); have n3_ := Aside0.mk ((by rw [hg]; exact (below_size (by repeat (first | (with_reducible first | exact HB.out | apply below_alloc | apply pw_below_drewN | apply below_drew1) | exact HB.out))) : w.heap.size ≤ gb304)); clear HB; have HB := n0_; have BK304 := n1_; have GW304 := n2_; have GE304 := n3_; clear n0_ n1_ n2_ n3_; clear hb hbox hg) | (go_at_call 9; (with_reducible refine (lombardlaw08_alive.calls k  true _ A2.out).mono ?_); rintro e w7 ⟨rfl, hb⟩; have n0_ := Aside0.mk (blk_below (g := gb304) (o := .cells #[.int .i64 a0_0, .int .i64 a0_1, .slice A0_2 l0_2.length c0_2, .int .i64 a0_3] 24 (0, 0)) (by (with_reducible repeat (first | refine blk_drewN ?_ _ | refine blk_drew ?_ | refine blk_alloc ?_ _)); exact BK304.out) hb); have n1_ := Aside0.mk (below_step (by repeat (first | (with_reducible first | exact HB.out | apply below_alloc | apply pw_below_drewN | apply below_drew1 | refine below_set ?_ GE304.out) | exact HB.out)) hb); clear BK304; clear HB; have BK304 := n0_; have HB := n1_; clear n0_ n1_; (try clear hb); (try clear hb2); (try clear hk); (try clear hi); have hcz8_0 : w7.cell? ⟨gb304, 0, none⟩ = some (.int .i64 a0_0) := (blk_cell BK304.out 0).trans rfl; have hcz8_1 : w7.cell? ⟨gb304, 1, none⟩ = some (.int .i64 a0_1) := (blk_cell BK304.out 1).trans rfl; have hcz8_2 : w7.cell? ⟨gb304, 2, none⟩ = some (.slice A0_2 l0_2.length c0_2) := (blk_cell BK304.out 2).trans rfl; have hcz8_3 : w7.cell? ⟨gb304, 3, none⟩ = some (.int .i64 a0_3) := (blk_cell BK304.out 3).trans rfl; have hfz8_0 := blk_frozen BK304.out 0; have hfz8_1 := blk_frozen BK304.out 1; have hfz8_2 := blk_frozen BK304.out 2; have hfz8_3 := blk_frozen BK304.out 3) | (go_at_call 10; (with_reducible refine (lombardlaw08_great.calls a0_0 a0_1 _ _ l0_2 a0_3 true _ ?side1 ?side2 A4.out).mono ?_); (case side1 => repeat (first | exact (Kd.C_below HR0_2.out HB.out) | (with_reducible refine Kd.C_alloc ?_ _) | (with_reducible refine Kd.C_drewN ?_ _) | (with_reducible refine Kd.C_drew ?_))); (case side2 => exact HC0_2.out); rintro e w9 ⟨rfl, hb⟩; have n0_ := Aside0.mk (blk_below (g := gb304) (o := .cells #[.int .i64 a0_0, .int .i64 a0_1, .slice A0_2 l0_2.length c0_2, .int .i64 a0_3] 24 (0, 0)) (by (with_reducible repeat (first | refine blk_drewN ?_ _ | refine blk_drew ?_ | refine blk_alloc ?_ _)); exact BK304.out) hb); have n1_ := Aside0.mk (below_step (by repeat (first | (with_reducible first | exact HB.out | apply below_alloc | apply pw_below_drewN | apply below_drew1 | refine below_set ?_ GE304.out) | exact HB.out)) hb); clear BK304; clear HB; have BK304 := n0_; have HB := n1_; clear n0_ n1_; (try clear hb); (try clear hb2); (try clear hk); (try clear hi))))
      go_ret
      exact ⟨by first | rfl | (simp [errW_none, errW_some] <;> rfl) | (simp [*, errW_none, errW_some] <;> rfl), by repeat (first | (with_reducible first | exact HB.out | apply below_alloc | apply pw_below_drewN | apply below_drew1 | refine below_set ?_ GE304.out) | exact HB.out)⟩
    · replace c5 := Bool.eq_false_iff.mpr c5
      subst c5
      have H1 : ((sched_Build.f k a0_0 a0_1 l0_2 a0_3).bind fun bt307 => (if bt307.2 = 0 then (lombardlaw08_SchedWhole.l0 k bt307.1 a0_1 0 0 0 bt307.1 (bt307.1.length : Int) 0 a0_0 a0_1 l0_2 a0_3) else (some ((bt307.1.length : Int) == 0)))) = some r := by rw [if_neg (show ¬ (false = true) by decide)] at H; exact H
      clear H
      have H := H1
      clear H1
      replace H := Option.bind_eq_some_iff.mp H
      obtain ⟨⟨t307, t310⟩, A100, H⟩ := H
      replace H : (if t310 = 0 then (lombardlaw08_SchedWhole.l0 k t307 a0_1 0 0 0 t307 (t307.length : Int) 0 a0_0 a0_1 l0_2 a0_3) else (some ((t307.length : Int) == 0))) = some r := H
      have A10 := Aside0.mk A100
      clear A100
      by_cases c11 : t310 = 0
      · rw [if_pos c11] at H
        have c11b0 : (t310 == 0) = true := beq_iff_eq.mpr c11
        have c11b1 : (t310 != 0) = false := bne_eq_false_iff_eq.mpr c11
        clear c11
        have H' := Aside0.mk H
        clear H
        go_enter Try.func5, Try.ntmps5
        go_wp2_with (first | ((with_reducible refine gate_dst (N := 1) rfl ?_); refine box_event ?hg (N := 1) ?hd (cs := #[.int .i64 a0_0, .int .i64 a0_1, .slice A0_2 l0_2.length c0_2, .int .i64 a0_3]) (t := 24) ?hr ?_; (case hd => rfl); (case hg => rfl); (case hr => first | (go_simp; done) | (go_simp; rfl)); intro gb304 hg w12 hbox hb; have n0_ := Aside0.mk (below_step (by repeat (first | (with_reducible first | exact HB.out | apply below_alloc | apply pw_below_drewN | apply below_drew1) | exact HB.out)) hb); have n1_ := Aside0.mk (hbox); have n2_ := Aside0.mk ((by rw [hg]; exact (below_size (by repeat (first | (with_reducible first | exact HB.out | apply below_alloc | apply pw_below_drewN | apply below_drew1) | exact HB.out))) : w.heap.size ≤ gb304)); have n3_ := Aside0.mk ((by rw [hg]; exact (below_size (by repeat (first | (with_reducible first | exact HB.out | apply below_alloc | apply pw_below_drewN | apply below_drew1) | exact HB.out))) : w.heap.size ≤ gb304)); clear HB; have HB := n0_; have BK304 := n1_; have GW304 := n2_; have GE304 := n3_; clear n0_ n1_ n2_ n3_; clear hb hbox hg) | (go_at_call 9; (with_reducible refine (lombardlaw08_alive.calls k  true _ A2.out).mono ?_); rintro e w13 ⟨rfl, hb⟩; have n0_ := Aside0.mk (blk_below (g := gb304) (o := .cells #[.int .i64 a0_0, .int .i64 a0_1, .slice A0_2 l0_2.length c0_2, .int .i64 a0_3] 24 (0, 0)) (by (with_reducible repeat (first | refine blk_drewN ?_ _ | refine blk_drew ?_ | refine blk_alloc ?_ _)); exact BK304.out) hb); have n1_ := Aside0.mk (below_step (by repeat (first | (with_reducible first | exact HB.out | apply below_alloc | apply pw_below_drewN | apply below_drew1 | refine below_set ?_ GE304.out) | exact HB.out)) hb); clear BK304; clear HB; have BK304 := n0_; have HB := n1_; clear n0_ n1_; (try clear hb); (try clear hb2); (try clear hk); (try clear hi); have hcz14_0 : w13.cell? ⟨gb304, 0, none⟩ = some (.int .i64 a0_0) := (blk_cell BK304.out 0).trans rfl; have hcz14_1 : w13.cell? ⟨gb304, 1, none⟩ = some (.int .i64 a0_1) := (blk_cell BK304.out 1).trans rfl; have hcz14_2 : w13.cell? ⟨gb304, 2, none⟩ = some (.slice A0_2 l0_2.length c0_2) := (blk_cell BK304.out 2).trans rfl; have hcz14_3 : w13.cell? ⟨gb304, 3, none⟩ = some (.int .i64 a0_3) := (blk_cell BK304.out 3).trans rfl; have hfz14_0 := blk_frozen BK304.out 0; have hfz14_1 := blk_frozen BK304.out 1; have hfz14_2 := blk_frozen BK304.out 2; have hfz14_3 := blk_frozen BK304.out 3) | (go_at_call 10; (with_reducible refine (lombardlaw08_great.calls a0_0 a0_1 _ _ l0_2 a0_3 false _ ?side1 ?side2 A4.out).mono ?_); (case side1 => repeat (first | exact (Kd.C_below HR0_2.out HB.out) | (with_reducible refine Kd.C_alloc ?_ _) | (with_reducible refine Kd.C_drewN ?_ _) | (with_reducible refine Kd.C_drew ?_))); (case side2 => exact HC0_2.out); rintro e w15 ⟨rfl, hb⟩; have n0_ := Aside0.mk (blk_below (g := gb304) (o := .cells #[.int .i64 a0_0, .int .i64 a0_1, .slice A0_2 l0_2.length c0_2, .int .i64 a0_3] 24 (0, 0)) (by (with_reducible repeat (first | refine blk_drewN ?_ _ | refine blk_drew ?_ | refine blk_alloc ?_ _)); exact BK304.out) hb); have n1_ := Aside0.mk (below_step (by repeat (first | (with_reducible first | exact HB.out | apply below_alloc | apply pw_below_drewN | apply below_drew1 | refine below_set ?_ GE304.out) | exact HB.out)) hb); clear BK304; clear HB; have BK304 := n0_; have HB := n1_; clear n0_ n1_; (try clear hb); (try clear hb2); (try clear hk); (try clear hi); have hcz16_0 : w15.cell? ⟨gb304, 0, none⟩ = some (.int .i64 a0_0) := (blk_cell BK304.out 0).trans rfl; have hcz16_1 : w15.cell? ⟨gb304, 1, none⟩ = some (.int .i64 a0_1) := (blk_cell BK304.out 1).trans rfl; have hcz16_2 : w15.cell? ⟨gb304, 2, none⟩ = some (.slice A0_2 l0_2.length c0_2) := (blk_cell BK304.out 2).trans rfl; have hcz16_3 : w15.cell? ⟨gb304, 3, none⟩ = some (.int .i64 a0_3) := (blk_cell BK304.out 3).trans rfl; have hfz16_0 := blk_frozen BK304.out 0; have hfz16_1 := blk_frozen BK304.out 1; have hfz16_2 := blk_frozen BK304.out 2; have hfz16_3 := blk_frozen BK304.out 3) | (go_at_call 11; (with_reducible refine (sched_Build.calls k a0_0 a0_1 _ _ l0_2 a0_3 t307 t310 _ ?side1 ?side2 A10.out).mono ?_); (case side1 => repeat (first | exact (Kd.C_below HR0_2.out HB.out) | (with_reducible refine Kd.C_alloc ?_ _) | (with_reducible refine Kd.C_drewN ?_ _) | (with_reducible refine Kd.C_drew ?_))); (case side2 => exact HC0_2.out); rintro e w17 ⟨v308, rfl, ho0, hb⟩; have n0_ := Aside0.mk (Kd.R_lower ho0 (below_size (by repeat (first | (with_reducible first | exact HB.out | apply below_alloc | apply pw_below_drewN | apply below_drew1 | refine below_set ?_ GE304.out) | exact HB.out)))); have n1_ := Aside0.mk (blk_below (g := gb304) (o := .cells #[.int .i64 a0_0, .int .i64 a0_1, .slice A0_2 l0_2.length c0_2, .int .i64 a0_3] 24 (0, 0)) (by (with_reducible repeat (first | refine blk_drewN ?_ _ | refine blk_drew ?_ | refine blk_alloc ?_ _)); exact BK304.out) hb); have n2_ := Aside0.mk (below_step (by repeat (first | (with_reducible first | exact HB.out | apply below_alloc | apply pw_below_drewN | apply below_drew1 | refine below_set ?_ GE304.out) | exact HB.out)) hb); clear BK304; clear HB; have HO309 := n0_; have BK304 := n1_; have HB := n2_; clear n0_ n1_ n2_; (try clear hb); (try clear hb2); (try clear hk); (try clear hi); (try clear ho0); have hcz18_0 : w17.cell? ⟨gb304, 0, none⟩ = some (.int .i64 a0_0) := (blk_cell BK304.out 0).trans rfl; have hcz18_1 : w17.cell? ⟨gb304, 1, none⟩ = some (.int .i64 a0_1) := (blk_cell BK304.out 1).trans rfl; have hcz18_2 : w17.cell? ⟨gb304, 2, none⟩ = some (.slice A0_2 l0_2.length c0_2) := (blk_cell BK304.out 2).trans rfl; have hcz18_3 : w17.cell? ⟨gb304, 3, none⟩ = some (.int .i64 a0_3) := (blk_cell BK304.out 3).trans rfl; have hfz18_0 := blk_frozen BK304.out 0; have hfz18_1 := blk_frozen BK304.out 1; have hfz18_2 := blk_frozen BK304.out 2; have hfz18_3 := blk_frozen BK304.out 3; obtain ⟨Ao19, co19, eo19⟩ := Kd.R_slice HO309.out; subst eo19))
        repeat (go_quiet (first | ((with_reducible refine gate_dst (N := 1) rfl ?_); refine box_event ?hg (N := 1) ?hd (cs := #[.int .i64 a0_0, .int .i64 a0_1, .slice A0_2 l0_2.length c0_2, .int .i64 a0_3]) (t := 24) ?hr ?_; (case hd => rfl); (case hg => rfl); (case hr => first | (go_simp; done) | (go_simp; rfl)); intro gb304 hg w12 hbox hb; have n0_ := Aside0.mk (below_step (by repeat (first | (with_reducible first | exact HB.out | apply below_alloc | apply pw_below_drewN | apply below_drew1) | exact HB.out)) hb); have n1_ := Aside0.mk (hbox); have n2_ := Aside0.mk ((by rw [hg]; exact (below_size (by repeat (first | (with_reducible first | exact HB.out | apply below_alloc | apply pw_below_drewN | apply below_drew1) | exact HB.out))) : w.heap.size ≤ gb304)); have n3_ := Aside0.mk ((by rw [hg]; exact (below_size (by repeat (first | (with_reducible first | exact HB.out | apply below_alloc | apply pw_below_drewN | apply below_drew1) | exact HB.out))) : w.heap.size ≤ gb304)); clear HB; have HB := n0_; have BK304 := n1_; have GW304 := n2_; have GE304 := n3_; clear n0_ n1_ n2_ n3_; clear hb hbox hg) | (go_at_call 9; (with_reducible refine (lombardlaw08_alive.calls k  true _ A2.out).mono ?_); rintro e w13 ⟨rfl, hb⟩; have n0_ := Aside0.mk (blk_below (g := gb304) (o := .cells #[.int .i64 a0_0, .int .i64 a0_1, .slice A0_2 l0_2.length c0_2, .int .i64 a0_3] 24 (0, 0)) (by (with_reducible repeat (first | refine blk_drewN ?_ _ | refine blk_drew ?_ | refine blk_alloc ?_ _)); exact BK304.out) hb); have n1_ := Aside0.mk (below_step (by repeat (first | (with_reducible first | exact HB.out | apply below_alloc | apply pw_below_drewN | apply below_drew1 | refine below_set ?_ GE304.out) | exact HB.out)) hb); clear BK304; clear HB; have BK304 := n0_; have HB := n1_; clear n0_ n1_; (try clear hb); (try clear hb2); (try clear hk); (try clear hi); have hcz14_0 : w13.cell? ⟨gb304, 0, none⟩ = some (.int .i64 a0_0) := (blk_cell BK304.out 0).trans rfl; have hcz14_1 : w13.cell? ⟨gb304, 1, none⟩ = some (.int .i64 a0_1) := (blk_cell BK304.out 1).trans rfl; have hcz14_2 : w13.cell? ⟨gb304, 2, none⟩ = some (.slice A0_2 l0_2.length c0_2) := (blk_cell BK304.out 2).trans rfl; have hcz14_3 : w13.cell? ⟨gb304, 3, none⟩ = some (.int .i64 a0_3) := (blk_cell BK304.out 3).trans rfl; have hfz14_0 := blk_frozen BK304.out 0; have hfz14_1 := blk_frozen BK304.out 1; have hfz14_2 := blk_frozen BK304.out 2; have hfz14_3 := blk_frozen BK304.out 3) | (go_at_call 10; (with_reducible refine (lombardlaw08_great.calls a0_0 a0_1 _ _ l0_2 a0_3 false _ ?side1 ?side2 A4.out).mono ?_); (case side1 => repeat (first | exact (Kd.C_below HR0_2.out HB.out) | (with_reducible refine Kd.C_alloc ?_ _) | (with_reducible refine Kd.C_drewN ?_ _) | (with_reducible refine Kd.C_drew ?_))); (case side2 => exact HC0_2.out); rintro e w15 ⟨rfl, hb⟩; have n0_ := Aside0.mk (blk_below (g := gb304) (o := .cells #[.int .i64 a0_0, .int .i64 a0_1, .slice A0_2 l0_2.length c0_2, .int .i64 a0_3] 24 (0, 0)) (by (with_reducible repeat (first | refine blk_drewN ?_ _ | refine blk_drew ?_ | refine blk_alloc ?_ _)); exact BK304.out) hb); have n1_ := Aside0.mk (below_step (by repeat (first | (with_reducible first | exact HB.out | apply below_alloc | apply pw_below_drewN | apply below_drew1 | refine below_set ?_ GE304.out) | exact HB.out)) hb); clear BK304; clear HB; have BK304 := n0_; have HB := n1_; clear n0_ n1_; (try clear hb); (try clear hb2); (try clear hk); (try clear hi); have hcz16_0 : w15.cell? ⟨gb304, 0, none⟩ = some (.int .i64 a0_0) := (blk_cell BK304.out 0).trans rfl; have hcz16_1 : w15.cell? ⟨gb304, 1, none⟩ = some (.int .i64 a0_1) := (blk_cell BK304.out 1).trans rfl; have hcz16_2 : w15.cell? ⟨gb304, 2, none⟩ = some (.slice A0_2 l0_2.length c0_2) := (blk_cell BK304.out 2).trans rfl; have hcz16_3 : w15.cell? ⟨gb304, 3, none⟩ = some (.int .i64 a0_3) := (blk_cell BK304.out 3).trans rfl; have hfz16_0 := blk_frozen BK304.out 0; have hfz16_1 := blk_frozen BK304.out 1; have hfz16_2 := blk_frozen BK304.out 2; have hfz16_3 := blk_frozen BK304.out 3) | (go_at_call 11; (with_reducible refine (sched_Build.calls k a0_0 a0_1 _ _ l0_2 a0_3 t307 t310 _ ?side1 ?side2 A10.out).mono ?_); (case side1 => repeat (first | exact (Kd.C_below HR0_2.out HB.out) | (with_reducible refine Kd.C_alloc ?_ _) | (with_reducible refine Kd.C_drewN ?_ _) | (with_reducible refine Kd.C_drew ?_))); (case side2 => exact HC0_2.out); rintro e w17 ⟨v308, rfl, ho0, hb⟩; have n0_ := Aside0.mk (Kd.R_lower ho0 (below_size (by repeat (first | (with_reducible first | exact HB.out | apply below_alloc | apply pw_below_drewN | apply below_drew1 | refine below_set ?_ GE304.out) | exact HB.out)))); have n1_ := Aside0.mk (blk_below (g := gb304) (o := .cells #[.int .i64 a0_0, .int .i64 a0_1, .slice A0_2 l0_2.length c0_2, .int .i64 a0_3] 24 (0, 0)) (by (with_reducible repeat (first | refine blk_drewN ?_ _ | refine blk_drew ?_ | refine blk_alloc ?_ _)); exact BK304.out) hb); have n2_ := Aside0.mk (below_step (by repeat (first | (with_reducible first | exact HB.out | apply below_alloc | apply pw_below_drewN | apply below_drew1 | refine below_set ?_ GE304.out) | exact HB.out)) hb); clear BK304; clear HB; have HO309 := n0_; have BK304 := n1_; have HB := n2_; clear n0_ n1_ n2_; (try clear hb); (try clear hb2); (try clear hk); (try clear hi); (try clear ho0); have hcz18_0 : w17.cell? ⟨gb304, 0, none⟩ = some (.int .i64 a0_0) := (blk_cell BK304.out 0).trans rfl; have hcz18_1 : w17.cell? ⟨gb304, 1, none⟩ = some (.int .i64 a0_1) := (blk_cell BK304.out 1).trans rfl; have hcz18_2 : w17.cell? ⟨gb304, 2, none⟩ = some (.slice A0_2 l0_2.length c0_2) := (blk_cell BK304.out 2).trans rfl; have hcz18_3 : w17.cell? ⟨gb304, 3, none⟩ = some (.int .i64 a0_3) := (blk_cell BK304.out 3).trans rfl; have hfz18_0 := blk_frozen BK304.out 0; have hfz18_1 := blk_frozen BK304.out 1; have hfz18_2 := blk_frozen BK304.out 2; have hfz18_3 := blk_frozen BK304.out 3; obtain ⟨Ao19, co19, eo19⟩ := Kd.R_slice HO309.out; subst eo19)); try go_wp2_with (first | ((with_reducible refine gate_dst (N := 1) rfl ?_); refine box_event ?hg (N := 1) ?hd (cs := #[.int .i64 a0_0, .int .i64 a0_1, .slice A0_2 l0_2.length c0_2, .int .i64 a0_3]) (t := 24) ?hr ?_; (case hd => rfl); (case hg => rfl); (case hr => first | (go_simp; done) | (go_simp; rfl)); intro gb304 hg w12 hbox hb; have n0_ := Aside0.mk (below_step (by repeat (first | (with_reducible first | exact HB.out | apply below_alloc | apply pw_below_drewN | apply below_drew1) | exact HB.out)) hb); have n1_ := Aside0.mk (hbox); have n2_ := Aside0.mk ((by rw [hg]; exact (below_size (by repeat (first | (with_reducible first | exact HB.out | apply below_alloc | apply pw_below_drewN | apply below_drew1) | exact HB.out))) : w.heap.size ≤ gb304)); have n3_ := Aside0.mk ((by rw [hg]; exact (below_size (by repeat (first | (with_reducible first | exact HB.out | apply below_alloc | apply pw_below_drewN | apply below_drew1) | exact HB.out))) : w.heap.size ≤ gb304)); clear HB; have HB := n0_; have BK304 := n1_; have GW304 := n2_; have GE304 := n3_; clear n0_ n1_ n2_ n3_; clear hb hbox hg) | (go_at_call 9; (with_reducible refine (lombardlaw08_alive.calls k  true _ A2.out).mono ?_); rintro e w13 ⟨rfl, hb⟩; have n0_ := Aside0.mk (blk_below (g := gb304) (o := .cells #[.int .i64 a0_0, .int .i64 a0_1, .slice A0_2 l0_2.length c0_2, .int .i64 a0_3] 24 (0, 0)) (by (with_reducible repeat (first | refine blk_drewN ?_ _ | refine blk_drew ?_ | refine blk_alloc ?_ _)); exact BK304.out) hb); have n1_ := Aside0.mk (below_step (by repeat (first | (with_reducible first | exact HB.out | apply below_alloc | apply pw_below_drewN | apply below_drew1 | refine below_set ?_ GE304.out) | exact HB.out)) hb); clear BK304; clear HB; have BK304 := n0_; have HB := n1_; clear n0_ n1_; (try clear hb); (try clear hb2); (try clear hk); (try clear hi); have hcz14_0 : w13.cell? ⟨gb304, 0, none⟩ = some (.int .i64 a0_0) := (blk_cell BK304.out 0).trans rfl; have hcz14_1 : w13.cell? ⟨gb304, 1, none⟩ = some (.int .i64 a0_1) := (blk_cell BK304.out 1).trans rfl; have hcz14_2 : w13.cell? ⟨gb304, 2, none⟩ = some (.slice A0_2 l0_2.length c0_2) := (blk_cell BK304.out 2).trans rfl; have hcz14_3 : w13.cell? ⟨gb304, 3, none⟩ = some (.int .i64 a0_3) := (blk_cell BK304.out 3).trans rfl; have hfz14_0 := blk_frozen BK304.out 0; have hfz14_1 := blk_frozen BK304.out 1; have hfz14_2 := blk_frozen BK304.out 2; have hfz14_3 := blk_frozen BK304.out 3) | (go_at_call 10; (with_reducible refine (lombardlaw08_great.calls a0_0 a0_1 _ _ l0_2 a0_3 false _ ?side1 ?side2 A4.out).mono ?_); (case side1 => repeat (first | exact (Kd.C_below HR0_2.out HB.out) | (with_reducible refine Kd.C_alloc ?_ _) | (with_reducible refine Kd.C_drewN ?_ _) | (with_reducible refine Kd.C_drew ?_))); (case side2 => exact HC0_2.out); rintro e w15 ⟨rfl, hb⟩; have n0_ := Aside0.mk (blk_below (g := gb304) (o := .cells #[.int .i64 a0_0, .int .i64 a0_1, .slice A0_2 l0_2.length c0_2, .int .i64 a0_3] 24 (0, 0)) (by (with_reducible repeat (first | refine blk_drewN ?_ _ | refine blk_drew ?_ | refine blk_alloc ?_ _)); exact BK304.out) hb); have n1_ := Aside0.mk (below_step (by repeat (first | (with_reducible first | exact HB.out | apply below_alloc | apply pw_below_drewN | apply below_drew1 | refine below_set ?_ GE304.out) | exact HB.out)) hb); clear BK304; clear HB; have BK304 := n0_; have HB := n1_; clear n0_ n1_; (try clear hb); (try clear hb2); (try clear hk); (try clear hi); have hcz16_0 : w15.cell? ⟨gb304, 0, none⟩ = some (.int .i64 a0_0) := (blk_cell BK304.out 0).trans rfl; have hcz16_1 : w15.cell? ⟨gb304, 1, none⟩ = some (.int .i64 a0_1) := (blk_cell BK304.out 1).trans rfl; have hcz16_2 : w15.cell? ⟨gb304, 2, none⟩ = some (.slice A0_2 l0_2.length c0_2) := (blk_cell BK304.out 2).trans rfl; have hcz16_3 : w15.cell? ⟨gb304, 3, none⟩ = some (.int .i64 a0_3) := (blk_cell BK304.out 3).trans rfl; have hfz16_0 := blk_frozen BK304.out 0; have hfz16_1 := blk_frozen BK304.out 1; have hfz16_2 := blk_frozen BK304.out 2; have hfz16_3 := blk_frozen BK304.out 3) | (go_at_call 11; (with_reducible refine (sched_Build.calls k a0_0 a0_1 _ _ l0_2 a0_3 t307 t310 _ ?side1 ?side2 A10.out).mono ?_); (case side1 => repeat (first | exact (Kd.C_below HR0_2.out HB.out) | (with_reducible refine Kd.C_alloc ?_ _) | (with_reducible refine Kd.C_drewN ?_ _) | (with_reducible refine Kd.C_drew ?_))); (case side2 => exact HC0_2.out); rintro e w17 ⟨v308, rfl, ho0, hb⟩; have n0_ := Aside0.mk (Kd.R_lower ho0 (below_size (by repeat (first | (with_reducible first | exact HB.out | apply below_alloc | apply pw_below_drewN | apply below_drew1 | refine below_set ?_ GE304.out) | exact HB.out)))); have n1_ := Aside0.mk (blk_below (g := gb304) (o := .cells #[.int .i64 a0_0, .int .i64 a0_1, .slice A0_2 l0_2.length c0_2, .int .i64 a0_3] 24 (0, 0)) (by (with_reducible repeat (first | refine blk_drewN ?_ _ | refine blk_drew ?_ | refine blk_alloc ?_ _)); exact BK304.out) hb); have n2_ := Aside0.mk (below_step (by repeat (first | (with_reducible first | exact HB.out | apply below_alloc | apply pw_below_drewN | apply below_drew1 | refine below_set ?_ GE304.out) | exact HB.out)) hb); clear BK304; clear HB; have HO309 := n0_; have BK304 := n1_; have HB := n2_; clear n0_ n1_ n2_; (try clear hb); (try clear hb2); (try clear hk); (try clear hi); (try clear ho0); have hcz18_0 : w17.cell? ⟨gb304, 0, none⟩ = some (.int .i64 a0_0) := (blk_cell BK304.out 0).trans rfl; have hcz18_1 : w17.cell? ⟨gb304, 1, none⟩ = some (.int .i64 a0_1) := (blk_cell BK304.out 1).trans rfl; have hcz18_2 : w17.cell? ⟨gb304, 2, none⟩ = some (.slice A0_2 l0_2.length c0_2) := (blk_cell BK304.out 2).trans rfl; have hcz18_3 : w17.cell? ⟨gb304, 3, none⟩ = some (.int .i64 a0_3) := (blk_cell BK304.out 3).trans rfl; have hfz18_0 := blk_frozen BK304.out 0; have hfz18_1 := blk_frozen BK304.out 1; have hfz18_2 := blk_frozen BK304.out 2; have hfz18_3 := blk_frozen BK304.out 3; obtain ⟨Ao19, co19, eo19⟩ := Kd.R_slice HO309.out; subst eo19)))
        go_loopg [5, 6, 7, 8, 31] k (fun kq v5 v6 v7 v8 v31 w' => ∃ (x5_1 : Int) (x6_1 : Int) (x7_1 : Int) (x8_1 : Int) (x31_1 : Int), v5 = .int .i64 x5_1 ∧ v6 = .int .i64 x6_1 ∧ v7 = .int .i64 x7_1 ∧ v8 = .int .i64 x8_1 ∧ v31 = .int .i64 x31_1 ∧ Aside0 (lombardlaw08_SchedWhole.l0 kq t307 x5_1 x6_1 x7_1 x8_1 t307 (t307.length : Int) x31_1 a0_0 a0_1 l0_2 a0_3 = some r) ∧ Aside0 (kq ≤ k) ∧ Aside0 (Kd.R k43 43 w' w.heap.size (fun _ => True) (.slice Ao19 t307.length co19) t307) ∧ Aside0 (Kd.R k43 43 w' w.heap.size (fun _ => True) (.slice Ao19 t307.length co19) t307) ∧ Aside0 (w'.heap[gb304]? = some (.cells #[.int .i64 a0_0, .int .i64 a0_1, (.slice A0_2 l0_2.length c0_2), .int .i64 a0_3] 24 (0, 0))) ∧ Aside0 (Below w.heap.size w w'))
        case atStart => exact ⟨(a0_1), (0), (0), (0), (0), (by first | rfl | (simp; done) | (simp [*]; done)), (by first | rfl | (simp; done) | (simp [*]; done)), (by first | rfl | (simp; done) | (simp [*]; done)), (by first | rfl | (simp; done) | (simp [*]; done)), (by first | rfl | (simp; done) | (simp [*]; done)), H', ⟨Nat.le_refl _⟩, ⟨by (with_reducible repeat (first | apply Kd.R_alloc | apply Kd.R_drewN | apply Kd.R_drew)); exact HO309.out⟩, ⟨by (with_reducible repeat (first | apply Kd.R_alloc | apply Kd.R_drewN | apply Kd.R_drew)); exact HO309.out⟩, ⟨by (with_reducible repeat (first | refine blk_drewN ?_ _ | refine blk_drew ?_ | refine blk_alloc ?_ _)); exact BK304.out⟩, ⟨by repeat (first | (with_reducible first | exact HB.out | apply below_alloc | apply pw_below_drewN | apply below_drew1 | refine below_set ?_ GE304.out) | exact HB.out)⟩⟩
        case round =>
          clear H'
          try clear c1
          try clear p2
          try clear c3
          try clear c5
          try clear c11
          try clear c11b0
          try clear c11b1
          try clear hcz14_0
          try clear hcz14_1
          try clear hcz14_2
          try clear hcz14_3
          try clear hcz16_0
          try clear hcz16_1
          try clear hcz16_2
          try clear hcz16_3
          try clear hcz18_0
          try clear hcz18_1
          try clear hcz18_2
          try clear hcz18_3
          try clear hcz8_0
          try clear hcz8_1
          try clear hcz8_2
          try clear hcz8_3
          try clear hfz14_0
          try clear hfz14_1
          try clear hfz14_2
          try clear hfz14_3
          try clear hfz16_0
          try clear hfz16_1
          try clear hfz16_2
          try clear hfz16_3
          try clear hfz18_0
          try clear hfz18_1
          try clear hfz18_2
          try clear hfz18_3
          try clear hfz8_0
          try clear hfz8_1
          try clear hfz8_2
          try clear hfz8_3
          obtain ⟨x5_1, x6_1, x7_1, x8_1, x31_1, rfl, rfl, rfl, rfl, rfl, HA, HK1, HO_3, HO_29, BK304, HB⟩ := hrel
          cases gk with
          | zero => exact absurd HA.out (by simp [lombardlaw08_SchedWhole.l0])
          | succ k1 =>
            have H := HA.out
            clear HA
            simp only [lombardlaw08_SchedWhole.l0] at H
            by_cases c20 : x31_1 < (t307.length : Int)
            · rw [if_pos c20] at H
              have c20b0 : decide (x31_1 < (t307.length : Int)) = true := decide_eq_true c20
              clear c20
              by_cases c21 : 0 ≤ x31_1
              · rw [if_pos c21] at H
                have c21b0 : decide (0 ≤ x31_1) = true := decide_eq_true c21
                clear c21
                by_cases c22 : x31_1 < (t307.length : Int)
                · rw [if_pos c22] at H
                  have c22b0 : decide (x31_1 < (t307.length : Int)) = true := decide_eq_true c22
                  clear c22
                  obtain ⟨ji23, hji23⟩ : ∃ j_ : Int, (mn x31_1 (wrap64 ((l0_2.length : Int) - 1))) = j_ := ⟨_, rfl⟩
                  replace H : (if 0 ≤ (ji23) then (if (ji23) < (l0_2.length : Int) then ((rate_Interest.f k1 x5_1 (rd l0_2 (ji23))).bind fun bt314 => (if bt314.2 = 0 then (if ((rd_T43 t307 x31_1).f0) = bt314.1 then (if ((rd_T43 t307 x31_1).f1) = (wrap64 (((rd_T43 t307 x31_1).f0) + ((rd_T43 t307 x31_1).f2))) then (if ((rd_T43 t307 x31_1).f3) = (wrap64 (x5_1 - ((rd_T43 t307 x31_1).f2))) then (if ((rd_T43 t307 x31_1).f1) < 0 then (some false) else (if ((rd_T43 t307 x31_1).f3) < 0 then (some false) else (if ((rd_T43 t307 x31_1).f3) > 10000000000000 then (some false) else (lombardlaw08_SchedWhole.l0 k1 t307 ((rd_T43 t307 x31_1).f3) (wrap64 (x6_1 + ((rd_T43 t307 x31_1).f2))) (wrap64 (x7_1 + ((rd_T43 t307 x31_1).f0))) (wrap64 (x8_1 + ((rd_T43 t307 x31_1).f1))) t307 (t307.length : Int) (wrap64 (x31_1 + 1)) a0_0 a0_1 l0_2 a0_3)))) else (some false)) else (some false)) else (some false)) else (some false))) else (none)) else (none)) = some r := by first | (rw [hji23] at H; exact H) | (simp only [hji23] at H ⊢; exact H)
                  have hji23_ : (if (wrap64 ((l0_2.length : Int) - 1)) < x31_1 then (wrap64 ((l0_2.length : Int) - 1)) else x31_1) = ji23 := hji23
                  by_cases c24 : 0 ≤ (ji23)
                  · rw [if_pos c24] at H
                    have c24b0 : decide (0 ≤ (ji23)) = true := decide_eq_true c24
                    clear c24
                    by_cases c25 : (ji23) < (l0_2.length : Int)
                    · rw [if_pos c25] at H
                      have c25b0 : decide ((ji23) < (l0_2.length : Int)) = true := decide_eq_true c25
                      clear c25
                      replace H := Option.bind_eq_some_iff.mp H
                      obtain ⟨⟨t314, t315⟩, A260, H⟩ := H
                      replace H : (if t315 = 0 then (if ((rd_T43 t307 x31_1).f0) = t314 then (if ((rd_T43 t307 x31_1).f1) = (wrap64 (((rd_T43 t307 x31_1).f0) + ((rd_T43 t307 x31_1).f2))) then (if ((rd_T43 t307 x31_1).f3) = (wrap64 (x5_1 - ((rd_T43 t307 x31_1).f2))) then (if ((rd_T43 t307 x31_1).f1) < 0 then (some false) else (if ((rd_T43 t307 x31_1).f3) < 0 then (some false) else (if ((rd_T43 t307 x31_1).f3) > 10000000000000 then (some false) else (lombardlaw08_SchedWhole.l0 k1 t307 ((rd_T43 t307 x31_1).f3) (wrap64 (x6_1 + ((rd_T43 t307 x31_1).f2))) (wrap64 (x7_1 + ((rd_T43 t307 x31_1).f0))) (wrap64 (x8_1 + ((rd_T43 t307 x31_1).f1))) t307 (t307.length : Int) (wrap64 (x31_1 + 1)) a0_0 a0_1 l0_2 a0_3)))) else (some false)) else (some false)) else (some false)) else (some false)) = some r := H
                      have A26 := Aside0.mk A260
                      clear A260
                      have HC27 := Aside0.mk H
                      clear H
                      have p311 : 0 ≤ (x31_1 : Int) := of_decide_eq_true (by first | (with_reducible assumption) | assumption)
                      have q311 : x31_1 < (t307.length : Int) := of_decide_eq_true (by first | (with_reducible assumption) | assumption)
                      obtain ⟨ad311, e311, hx311_0, hx311_1, hx311_2, hx311_3⟩ := at_T43 (Kd.R_reads' HO_29.out).2.2 x31_1 p311 q311
                      cases e311
                      replace p311 := eq_true p311
                      replace q311 := eq_true q311
                      go_upto_region 13 with (first | ((with_reducible refine gate_dst (N := 10) rfl ?_); refine box_event ?hg (N := 10) ?hd (cs := #[.int .i64 0, .int .i64 0, .int .i64 0, .int .i64 0]) (t := 43) ?hr ?_; (case hd => rfl); (case hg => rfl); (case hr => first | (go_simp; done) | (go_simp; rfl)); intro gb312 hg w28 hbox hb; have n0_ := Aside0.mk (Kd.R_below (Kd.R_elderB (by (with_reducible repeat (first | apply Kd.R_alloc | apply Kd.R_drewN | apply Kd.R_drew)); exact HO_3.out) gb312 (Nat.le_of_eq hg.symm)) hb); have n1_ := Aside0.mk (Kd.R_below (Kd.R_elderB (by (with_reducible repeat (first | apply Kd.R_alloc | apply Kd.R_drewN | apply Kd.R_drew)); exact HO_29.out) gb312 (Nat.le_of_eq hg.symm)) hb); have n2_ := Aside0.mk (blk_below (g := gb304) (o := .cells #[.int .i64 a0_0, .int .i64 a0_1, .slice A0_2 l0_2.length c0_2, .int .i64 a0_3] 24 (0, 0)) (by (with_reducible repeat (first | refine blk_drewN ?_ _ | refine blk_drew ?_ | refine blk_alloc ?_ _)); exact BK304.out) hb); have n3_ := Aside0.mk (below_step (by repeat (first | (with_reducible first | exact HB.out | apply below_alloc | apply pw_below_drewN | apply below_drew1 | refine below_set ?_ GE304.out) | exact HB.out)) hb); have n4_ := Aside0.mk (hbox); have n5_ := Aside0.mk ((by rw [hg]; exact (below_size (by repeat (first | (with_reducible first | exact HB.out | apply below_alloc | apply pw_below_drewN | apply below_drew1 | refine below_set ?_ GE304.out) | exact HB.out))) : w.heap.size ≤ gb312)); have n6_ := Aside0.mk ((by rw [hg]; exact (below_size (by repeat (first | (with_reducible first | exact HB.out | apply below_alloc | apply pw_below_drewN | apply below_drew1 | refine below_set ?_ GE304.out) | exact HB.out))) : w.heap.size ≤ gb312)); have n7_ := Aside0.mk ((by rw [hg]; exact Nat.ne_of_lt (blk_lt (g := gb304) (o := .cells #[.int .i64 a0_0, .int .i64 a0_1, .slice A0_2 l0_2.length c0_2, .int .i64 a0_3] 24 (0, 0)) (by (with_reducible repeat (first | refine blk_drewN ?_ _ | refine blk_drew ?_ | refine blk_alloc ?_ _)); exact BK304.out)) : gb304 ≠ gb312)); have n8_ := Aside0.mk ((by rw [hg]; exact Nat.ne_of_gt (blk_lt (g := gb304) (o := .cells #[.int .i64 a0_0, .int .i64 a0_1, .slice A0_2 l0_2.length c0_2, .int .i64 a0_3] 24 (0, 0)) (by (with_reducible repeat (first | refine blk_drewN ?_ _ | refine blk_drew ?_ | refine blk_alloc ?_ _)); exact BK304.out)) : gb312 ≠ gb304)); clear HO_3; clear HO_29; clear BK304; clear HB; have HO_3 := n0_; have HO_29 := n1_; have BK304 := n2_; have HB := n3_; have BK312 := n4_; have GW312 := n5_; have GE312 := n6_; have NB304_312 := n7_; have NB312_304 := n8_; clear n0_ n1_ n2_ n3_ n4_ n5_ n6_ n7_ n8_; clear hb hbox hg; have hnb29 := NB312_304.out; have hnc29 := NB304_312.out; have hcz30_0 : w28.cell? ⟨gb312, 0, none⟩ = some (.int .i64 0) := (blk_cell BK312.out 0).trans rfl; have hcz30_1 : w28.cell? ⟨gb312, 1, none⟩ = some (.int .i64 0) := (blk_cell BK312.out 1).trans rfl; have hcz30_2 : w28.cell? ⟨gb312, 2, none⟩ = some (.int .i64 0) := (blk_cell BK312.out 2).trans rfl; have hcz30_3 : w28.cell? ⟨gb312, 3, none⟩ = some (.int .i64 0) := (blk_cell BK312.out 3).trans rfl; have hfz30_0 := blk_frozen BK312.out 0; have hfz30_1 := blk_frozen BK312.out 1; have hfz30_2 := blk_frozen BK312.out 2; have hfz30_3 := blk_frozen BK312.out 3; have hcz31_0 : w28.cell? ⟨gb304, 0, none⟩ = some (.int .i64 a0_0) := (blk_cell BK304.out 0).trans rfl; have hcz31_1 : w28.cell? ⟨gb304, 1, none⟩ = some (.int .i64 a0_1) := (blk_cell BK304.out 1).trans rfl; have hcz31_2 : w28.cell? ⟨gb304, 2, none⟩ = some (.slice A0_2 l0_2.length c0_2) := (blk_cell BK304.out 2).trans rfl; have hcz31_3 : w28.cell? ⟨gb304, 3, none⟩ = some (.int .i64 a0_3) := (blk_cell BK304.out 3).trans rfl; have hfz31_0 := blk_frozen BK304.out 0; have hfz31_1 := blk_frozen BK304.out 1; have hfz31_2 := blk_frozen BK304.out 2; have hfz31_3 := blk_frozen BK304.out 3; have p313 : 0 ≤ ((ji23) : Int) := of_decide_eq_true (by first | (with_reducible assumption) | assumption); have q313 : (ji23) < (l0_2.length : Int) := of_decide_eq_true (by first | (with_reducible assumption) | assumption); obtain ⟨ad313, e313, hx313_0⟩ := Kd.at_int HR0_2.out (ji23) p313 q313; cases e313; have hn313_0 : ad313.block ≠ gb312 := Nat.ne_of_lt (Nat.lt_of_lt_of_le (by have := World.block_lt_of_cell? _ _ hx313_0; first | rwa [add_block] at this | exact this) GW312.out); have hn313_1 : ad313.block ≠ gb312 := Nat.ne_of_lt (Nat.lt_of_lt_of_le (by have := World.block_lt_of_cell? _ _ hx313_0; first | rwa [add_block] at this | exact this) GW312.out); have hn313_2 : ad313.block ≠ gb312 := Nat.ne_of_lt (Nat.lt_of_lt_of_le (by have := World.block_lt_of_cell? _ _ hx313_0; first | rwa [add_block] at this | exact this) GW312.out); have hn313_3 : ad313.block ≠ gb312 := Nat.ne_of_lt (Nat.lt_of_lt_of_le (by have := World.block_lt_of_cell? _ _ hx313_0; first | rwa [add_block] at this | exact this) GW312.out); try replace hx313_0 := (HB.out.cell (World.block_lt_of_cell? w _ hx313_0)).trans hx313_0; replace hx313_0 := (cell_far (p := ⟨gb312, 0, none⟩) (by first | (rw [add_block]; exact hn313_0) | (show (Addr.add _ _).block ≠ _; rw [add_block]; exact hn313_0) | exact hn313_0) (.int .i64 ((rd_T43 t307 x31_1).f0))).trans hx313_0; replace hx313_0 := (cell_far (p := ⟨gb312, 1, none⟩) (by first | (rw [add_block]; exact hn313_1) | (show (Addr.add _ _).block ≠ _; rw [add_block]; exact hn313_1) | exact hn313_1) (.int .i64 ((rd_T43 t307 x31_1).f1))).trans hx313_0; replace hx313_0 := (cell_far (p := ⟨gb312, 2, none⟩) (by first | (rw [add_block]; exact hn313_2) | (show (Addr.add _ _).block ≠ _; rw [add_block]; exact hn313_2) | exact hn313_2) (.int .i64 ((rd_T43 t307 x31_1).f2))).trans hx313_0; replace hx313_0 := (cell_far (p := ⟨gb312, 3, none⟩) (by first | (rw [add_block]; exact hn313_3) | (show (Addr.add _ _).block ≠ _; rw [add_block]; exact hn313_3) | exact hn313_3) (.int .i64 ((rd_T43 t307 x31_1).f3))).trans hx313_0; (try have hy313_0 := fun (n_ : Nat) => (show ((((((w28.drewN n_).setCell ⟨gb312, 0, none⟩ (.int .i64 ((rd_T43 t307 x31_1).f0))).setCell ⟨gb312, 1, none⟩ (.int .i64 ((rd_T43 t307 x31_1).f1))).setCell ⟨gb312, 2, none⟩ (.int .i64 ((rd_T43 t307 x31_1).f2))).setCell ⟨gb312, 3, none⟩ (.int .i64 ((rd_T43 t307 x31_1).f3)))).cell? _ = some _ from hx313_0)); clear hn313_0; clear hn313_1; clear hn313_2; clear hn313_3; replace p313 := eq_true p313; replace q313 := eq_true q313) | (go_at_call 19; (with_reducible refine (rate_Interest.calls k1 x5_1 (rd l0_2 (ji23)) t314 t315 _ A26.out).mono ?_); rintro e w32 ⟨rfl, hb⟩; have n0_ := Aside0.mk (Kd.R_below (by (with_reducible repeat (first | apply Kd.R_alloc | apply Kd.R_drewN | apply Kd.R_drew)); exact (Kd.R_mono (Kd.R_far (p := ⟨gb312, 3, none⟩) (Kd.R_far (p := ⟨gb312, 2, none⟩) (Kd.R_far (p := ⟨gb312, 1, none⟩) (Kd.R_far (p := ⟨gb312, 0, none⟩) (Kd.R_mono HO_3.out (fun k_ hk => (⟨hk, hk.2⟩ : _ ∧ k_ ≠ gb312))) (fun _ hk => hk.2) (.int .i64 ((rd_T43 t307 x31_1).f0))) (fun _ hk => hk.2) (.int .i64 ((rd_T43 t307 x31_1).f1))) (fun _ hk => hk.2) (.int .i64 ((rd_T43 t307 x31_1).f2))) (fun _ hk => hk.2) (.int .i64 ((rd_T43 t307 x31_1).f3))) (fun _ h_ => h_.1))) hb); have n1_ := Aside0.mk (Kd.R_below (by (with_reducible repeat (first | apply Kd.R_alloc | apply Kd.R_drewN | apply Kd.R_drew)); exact (Kd.R_mono (Kd.R_far (p := ⟨gb312, 3, none⟩) (Kd.R_far (p := ⟨gb312, 2, none⟩) (Kd.R_far (p := ⟨gb312, 1, none⟩) (Kd.R_far (p := ⟨gb312, 0, none⟩) (Kd.R_mono HO_29.out (fun k_ hk => (⟨hk, hk.2⟩ : _ ∧ k_ ≠ gb312))) (fun _ hk => hk.2) (.int .i64 ((rd_T43 t307 x31_1).f0))) (fun _ hk => hk.2) (.int .i64 ((rd_T43 t307 x31_1).f1))) (fun _ hk => hk.2) (.int .i64 ((rd_T43 t307 x31_1).f2))) (fun _ hk => hk.2) (.int .i64 ((rd_T43 t307 x31_1).f3))) (fun _ h_ => h_.1))) hb); have n2_ := Aside0.mk (blk_below (g := gb304) (o := .cells #[.int .i64 a0_0, .int .i64 a0_1, .slice (some ad313) l0_2.length c0_2, .int .i64 a0_3] 24 (0, 0)) (by (with_reducible repeat (first | refine blk_drewN ?_ _ | refine blk_drew ?_ | refine blk_alloc ?_ _)); refine blk_far ?_ NB304_312.out _; (with_reducible repeat (first | refine blk_drewN ?_ _ | refine blk_drew ?_ | refine blk_alloc ?_ _)); refine blk_far ?_ NB304_312.out _; (with_reducible repeat (first | refine blk_drewN ?_ _ | refine blk_drew ?_ | refine blk_alloc ?_ _)); refine blk_far ?_ NB304_312.out _; (with_reducible repeat (first | refine blk_drewN ?_ _ | refine blk_drew ?_ | refine blk_alloc ?_ _)); refine blk_far ?_ NB304_312.out _; (with_reducible repeat (first | refine blk_drewN ?_ _ | refine blk_drew ?_ | refine blk_alloc ?_ _)); exact BK304.out) hb); have n3_ := Aside0.mk (blk_below (g := gb312) (o := .cells #[.int .i64 ((rd_T43 t307 x31_1).f0), .int .i64 ((rd_T43 t307 x31_1).f1), .int .i64 ((rd_T43 t307 x31_1).f2), .int .i64 ((rd_T43 t307 x31_1).f3)] 43 (0, 0)) (by (with_reducible repeat (first | refine blk_drewN ?_ _ | refine blk_drew ?_ | refine blk_alloc ?_ _)); refine blk_put (cs := #[.int .i64 ((rd_T43 t307 x31_1).f0), .int .i64 ((rd_T43 t307 x31_1).f1), .int .i64 ((rd_T43 t307 x31_1).f2), .int .i64 0]) ?_ 3 _ rfl; (with_reducible repeat (first | refine blk_drewN ?_ _ | refine blk_drew ?_ | refine blk_alloc ?_ _)); refine blk_put (cs := #[.int .i64 ((rd_T43 t307 x31_1).f0), .int .i64 ((rd_T43 t307 x31_1).f1), .int .i64 0, .int .i64 0]) ?_ 2 _ rfl; (with_reducible repeat (first | refine blk_drewN ?_ _ | refine blk_drew ?_ | refine blk_alloc ?_ _)); refine blk_put (cs := #[.int .i64 ((rd_T43 t307 x31_1).f0), .int .i64 0, .int .i64 0, .int .i64 0]) ?_ 1 _ rfl; (with_reducible repeat (first | refine blk_drewN ?_ _ | refine blk_drew ?_ | refine blk_alloc ?_ _)); refine blk_put (cs := #[.int .i64 0, .int .i64 0, .int .i64 0, .int .i64 0]) ?_ 0 _ rfl; (with_reducible repeat (first | refine blk_drewN ?_ _ | refine blk_drew ?_ | refine blk_alloc ?_ _)); exact BK312.out) hb); have n4_ := Aside0.mk (below_step (by repeat (first | (with_reducible first | exact HB.out | apply below_alloc | apply pw_below_drewN | apply below_drew1 | refine below_set ?_ GE304.out | refine below_set ?_ GE312.out) | exact HB.out)) hb); clear HO_3; clear HO_29; clear BK304; clear BK312; clear HB; have HO_3 := n0_; have HO_29 := n1_; have BK304 := n2_; have BK312 := n3_; have HB := n4_; clear n0_ n1_ n2_ n3_ n4_; (try clear hb); (try clear hb2); (try clear hk); (try clear hi)))
                      repeat (go_quiet (first | ((with_reducible refine gate_dst (N := 10) rfl ?_); refine box_event ?hg (N := 10) ?hd (cs := #[.int .i64 0, .int .i64 0, .int .i64 0, .int .i64 0]) (t := 43) ?hr ?_; (case hd => rfl); (case hg => rfl); (case hr => first | (go_simp; done) | (go_simp; rfl)); intro gb312 hg w28 hbox hb; have n0_ := Aside0.mk (Kd.R_below (Kd.R_elderB (by (with_reducible repeat (first | apply Kd.R_alloc | apply Kd.R_drewN | apply Kd.R_drew)); exact HO_3.out) gb312 (Nat.le_of_eq hg.symm)) hb); have n1_ := Aside0.mk (Kd.R_below (Kd.R_elderB (by (with_reducible repeat (first | apply Kd.R_alloc | apply Kd.R_drewN | apply Kd.R_drew)); exact HO_29.out) gb312 (Nat.le_of_eq hg.symm)) hb); have n2_ := Aside0.mk (blk_below (g := gb304) (o := .cells #[.int .i64 a0_0, .int .i64 a0_1, .slice A0_2 l0_2.length c0_2, .int .i64 a0_3] 24 (0, 0)) (by (with_reducible repeat (first | refine blk_drewN ?_ _ | refine blk_drew ?_ | refine blk_alloc ?_ _)); exact BK304.out) hb); have n3_ := Aside0.mk (below_step (by repeat (first | (with_reducible first | exact HB.out | apply below_alloc | apply pw_below_drewN | apply below_drew1 | refine below_set ?_ GE304.out) | exact HB.out)) hb); have n4_ := Aside0.mk (hbox); have n5_ := Aside0.mk ((by rw [hg]; exact (below_size (by repeat (first | (with_reducible first | exact HB.out | apply below_alloc | apply pw_below_drewN | apply below_drew1 | refine below_set ?_ GE304.out) | exact HB.out))) : w.heap.size ≤ gb312)); have n6_ := Aside0.mk ((by rw [hg]; exact (below_size (by repeat (first | (with_reducible first | exact HB.out | apply below_alloc | apply pw_below_drewN | apply below_drew1 | refine below_set ?_ GE304.out) | exact HB.out))) : w.heap.size ≤ gb312)); have n7_ := Aside0.mk ((by rw [hg]; exact Nat.ne_of_lt (blk_lt (g := gb304) (o := .cells #[.int .i64 a0_0, .int .i64 a0_1, .slice A0_2 l0_2.length c0_2, .int .i64 a0_3] 24 (0, 0)) (by (with_reducible repeat (first | refine blk_drewN ?_ _ | refine blk_drew ?_ | refine blk_alloc ?_ _)); exact BK304.out)) : gb304 ≠ gb312)); have n8_ := Aside0.mk ((by rw [hg]; exact Nat.ne_of_gt (blk_lt (g := gb304) (o := .cells #[.int .i64 a0_0, .int .i64 a0_1, .slice A0_2 l0_2.length c0_2, .int .i64 a0_3] 24 (0, 0)) (by (with_reducible repeat (first | refine blk_drewN ?_ _ | refine blk_drew ?_ | refine blk_alloc ?_ _)); exact BK304.out)) : gb312 ≠ gb304)); clear HO_3; clear HO_29; clear BK304; clear HB; have HO_3 := n0_; have HO_29 := n1_; have BK304 := n2_; have HB := n3_; have BK312 := n4_; have GW312 := n5_; have GE312 := n6_; have NB304_312 := n7_; have NB312_304 := n8_; clear n0_ n1_ n2_ n3_ n4_ n5_ n6_ n7_ n8_; clear hb hbox hg; have hnb29 := NB312_304.out; have hnc29 := NB304_312.out; have hcz30_0 : w28.cell? ⟨gb312, 0, none⟩ = some (.int .i64 0) := (blk_cell BK312.out 0).trans rfl; have hcz30_1 : w28.cell? ⟨gb312, 1, none⟩ = some (.int .i64 0) := (blk_cell BK312.out 1).trans rfl; have hcz30_2 : w28.cell? ⟨gb312, 2, none⟩ = some (.int .i64 0) := (blk_cell BK312.out 2).trans rfl; have hcz30_3 : w28.cell? ⟨gb312, 3, none⟩ = some (.int .i64 0) := (blk_cell BK312.out 3).trans rfl; have hfz30_0 := blk_frozen BK312.out 0; have hfz30_1 := blk_frozen BK312.out 1; have hfz30_2 := blk_frozen BK312.out 2; have hfz30_3 := blk_frozen BK312.out 3; have hcz31_0 : w28.cell? ⟨gb304, 0, none⟩ = some (.int .i64 a0_0) := (blk_cell BK304.out 0).trans rfl; have hcz31_1 : w28.cell? ⟨gb304, 1, none⟩ = some (.int .i64 a0_1) := (blk_cell BK304.out 1).trans rfl; have hcz31_2 : w28.cell? ⟨gb304, 2, none⟩ = some (.slice A0_2 l0_2.length c0_2) := (blk_cell BK304.out 2).trans rfl; have hcz31_3 : w28.cell? ⟨gb304, 3, none⟩ = some (.int .i64 a0_3) := (blk_cell BK304.out 3).trans rfl; have hfz31_0 := blk_frozen BK304.out 0; have hfz31_1 := blk_frozen BK304.out 1; have hfz31_2 := blk_frozen BK304.out 2; have hfz31_3 := blk_frozen BK304.out 3; have p313 : 0 ≤ ((ji23) : Int) := of_decide_eq_true (by first | (with_reducible assumption) | assumption); have q313 : (ji23) < (l0_2.length : Int) := of_decide_eq_true (by first | (with_reducible assumption) | assumption); obtain ⟨ad313, e313, hx313_0⟩ := Kd.at_int HR0_2.out (ji23) p313 q313; cases e313; have hn313_0 : ad313.block ≠ gb312 := Nat.ne_of_lt (Nat.lt_of_lt_of_le (by have := World.block_lt_of_cell? _ _ hx313_0; first | rwa [add_block] at this | exact this) GW312.out); have hn313_1 : ad313.block ≠ gb312 := Nat.ne_of_lt (Nat.lt_of_lt_of_le (by have := World.block_lt_of_cell? _ _ hx313_0; first | rwa [add_block] at this | exact this) GW312.out); have hn313_2 : ad313.block ≠ gb312 := Nat.ne_of_lt (Nat.lt_of_lt_of_le (by have := World.block_lt_of_cell? _ _ hx313_0; first | rwa [add_block] at this | exact this) GW312.out); have hn313_3 : ad313.block ≠ gb312 := Nat.ne_of_lt (Nat.lt_of_lt_of_le (by have := World.block_lt_of_cell? _ _ hx313_0; first | rwa [add_block] at this | exact this) GW312.out); try replace hx313_0 := (HB.out.cell (World.block_lt_of_cell? w _ hx313_0)).trans hx313_0; replace hx313_0 := (cell_far (p := ⟨gb312, 0, none⟩) (by first | (rw [add_block]; exact hn313_0) | (show (Addr.add _ _).block ≠ _; rw [add_block]; exact hn313_0) | exact hn313_0) (.int .i64 ((rd_T43 t307 x31_1).f0))).trans hx313_0; replace hx313_0 := (cell_far (p := ⟨gb312, 1, none⟩) (by first | (rw [add_block]; exact hn313_1) | (show (Addr.add _ _).block ≠ _; rw [add_block]; exact hn313_1) | exact hn313_1) (.int .i64 ((rd_T43 t307 x31_1).f1))).trans hx313_0; replace hx313_0 := (cell_far (p := ⟨gb312, 2, none⟩) (by first | (rw [add_block]; exact hn313_2) | (show (Addr.add _ _).block ≠ _; rw [add_block]; exact hn313_2) | exact hn313_2) (.int .i64 ((rd_T43 t307 x31_1).f2))).trans hx313_0; replace hx313_0 := (cell_far (p := ⟨gb312, 3, none⟩) (by first | (rw [add_block]; exact hn313_3) | (show (Addr.add _ _).block ≠ _; rw [add_block]; exact hn313_3) | exact hn313_3) (.int .i64 ((rd_T43 t307 x31_1).f3))).trans hx313_0; (try have hy313_0 := fun (n_ : Nat) => (show ((((((w28.drewN n_).setCell ⟨gb312, 0, none⟩ (.int .i64 ((rd_T43 t307 x31_1).f0))).setCell ⟨gb312, 1, none⟩ (.int .i64 ((rd_T43 t307 x31_1).f1))).setCell ⟨gb312, 2, none⟩ (.int .i64 ((rd_T43 t307 x31_1).f2))).setCell ⟨gb312, 3, none⟩ (.int .i64 ((rd_T43 t307 x31_1).f3)))).cell? _ = some _ from hx313_0)); clear hn313_0; clear hn313_1; clear hn313_2; clear hn313_3; replace p313 := eq_true p313; replace q313 := eq_true q313) | (go_at_call 19; (with_reducible refine (rate_Interest.calls k1 x5_1 (rd l0_2 (ji23)) t314 t315 _ A26.out).mono ?_); rintro e w32 ⟨rfl, hb⟩; have n0_ := Aside0.mk (Kd.R_below (by (with_reducible repeat (first | apply Kd.R_alloc | apply Kd.R_drewN | apply Kd.R_drew)); exact (Kd.R_mono (Kd.R_far (p := ⟨gb312, 3, none⟩) (Kd.R_far (p := ⟨gb312, 2, none⟩) (Kd.R_far (p := ⟨gb312, 1, none⟩) (Kd.R_far (p := ⟨gb312, 0, none⟩) (Kd.R_mono HO_3.out (fun k_ hk => (⟨hk, hk.2⟩ : _ ∧ k_ ≠ gb312))) (fun _ hk => hk.2) (.int .i64 ((rd_T43 t307 x31_1).f0))) (fun _ hk => hk.2) (.int .i64 ((rd_T43 t307 x31_1).f1))) (fun _ hk => hk.2) (.int .i64 ((rd_T43 t307 x31_1).f2))) (fun _ hk => hk.2) (.int .i64 ((rd_T43 t307 x31_1).f3))) (fun _ h_ => h_.1))) hb); have n1_ := Aside0.mk (Kd.R_below (by (with_reducible repeat (first | apply Kd.R_alloc | apply Kd.R_drewN | apply Kd.R_drew)); exact (Kd.R_mono (Kd.R_far (p := ⟨gb312, 3, none⟩) (Kd.R_far (p := ⟨gb312, 2, none⟩) (Kd.R_far (p := ⟨gb312, 1, none⟩) (Kd.R_far (p := ⟨gb312, 0, none⟩) (Kd.R_mono HO_29.out (fun k_ hk => (⟨hk, hk.2⟩ : _ ∧ k_ ≠ gb312))) (fun _ hk => hk.2) (.int .i64 ((rd_T43 t307 x31_1).f0))) (fun _ hk => hk.2) (.int .i64 ((rd_T43 t307 x31_1).f1))) (fun _ hk => hk.2) (.int .i64 ((rd_T43 t307 x31_1).f2))) (fun _ hk => hk.2) (.int .i64 ((rd_T43 t307 x31_1).f3))) (fun _ h_ => h_.1))) hb); have n2_ := Aside0.mk (blk_below (g := gb304) (o := .cells #[.int .i64 a0_0, .int .i64 a0_1, .slice (some ad313) l0_2.length c0_2, .int .i64 a0_3] 24 (0, 0)) (by (with_reducible repeat (first | refine blk_drewN ?_ _ | refine blk_drew ?_ | refine blk_alloc ?_ _)); refine blk_far ?_ NB304_312.out _; (with_reducible repeat (first | refine blk_drewN ?_ _ | refine blk_drew ?_ | refine blk_alloc ?_ _)); refine blk_far ?_ NB304_312.out _; (with_reducible repeat (first | refine blk_drewN ?_ _ | refine blk_drew ?_ | refine blk_alloc ?_ _)); refine blk_far ?_ NB304_312.out _; (with_reducible repeat (first | refine blk_drewN ?_ _ | refine blk_drew ?_ | refine blk_alloc ?_ _)); refine blk_far ?_ NB304_312.out _; (with_reducible repeat (first | refine blk_drewN ?_ _ | refine blk_drew ?_ | refine blk_alloc ?_ _)); exact BK304.out) hb); have n3_ := Aside0.mk (blk_below (g := gb312) (o := .cells #[.int .i64 ((rd_T43 t307 x31_1).f0), .int .i64 ((rd_T43 t307 x31_1).f1), .int .i64 ((rd_T43 t307 x31_1).f2), .int .i64 ((rd_T43 t307 x31_1).f3)] 43 (0, 0)) (by (with_reducible repeat (first | refine blk_drewN ?_ _ | refine blk_drew ?_ | refine blk_alloc ?_ _)); refine blk_put (cs := #[.int .i64 ((rd_T43 t307 x31_1).f0), .int .i64 ((rd_T43 t307 x31_1).f1), .int .i64 ((rd_T43 t307 x31_1).f2), .int .i64 0]) ?_ 3 _ rfl; (with_reducible repeat (first | refine blk_drewN ?_ _ | refine blk_drew ?_ | refine blk_alloc ?_ _)); refine blk_put (cs := #[.int .i64 ((rd_T43 t307 x31_1).f0), .int .i64 ((rd_T43 t307 x31_1).f1), .int .i64 0, .int .i64 0]) ?_ 2 _ rfl; (with_reducible repeat (first | refine blk_drewN ?_ _ | refine blk_drew ?_ | refine blk_alloc ?_ _)); refine blk_put (cs := #[.int .i64 ((rd_T43 t307 x31_1).f0), .int .i64 0, .int .i64 0, .int .i64 0]) ?_ 1 _ rfl; (with_reducible repeat (first | refine blk_drewN ?_ _ | refine blk_drew ?_ | refine blk_alloc ?_ _)); refine blk_put (cs := #[.int .i64 0, .int .i64 0, .int .i64 0, .int .i64 0]) ?_ 0 _ rfl; (with_reducible repeat (first | refine blk_drewN ?_ _ | refine blk_drew ?_ | refine blk_alloc ?_ _)); exact BK312.out) hb); have n4_ := Aside0.mk (below_step (by repeat (first | (with_reducible first | exact HB.out | apply below_alloc | apply pw_below_drewN | apply below_drew1 | refine below_set ?_ GE304.out | refine below_set ?_ GE312.out) | exact HB.out)) hb); clear HO_3; clear HO_29; clear BK304; clear BK312; clear HB; have HO_3 := n0_; have HO_29 := n1_; have BK304 := n2_; have BK312 := n3_; have HB := n4_; clear n0_ n1_ n2_ n3_ n4_; (try clear hb); (try clear hb2); (try clear hk); (try clear hi))); go_upto_region 13 with (first | ((with_reducible refine gate_dst (N := 10) rfl ?_); refine box_event ?hg (N := 10) ?hd (cs := #[.int .i64 0, .int .i64 0, .int .i64 0, .int .i64 0]) (t := 43) ?hr ?_; (case hd => rfl); (case hg => rfl); (case hr => first | (go_simp; done) | (go_simp; rfl)); intro gb312 hg w28 hbox hb; have n0_ := Aside0.mk (Kd.R_below (Kd.R_elderB (by (with_reducible repeat (first | apply Kd.R_alloc | apply Kd.R_drewN | apply Kd.R_drew)); exact HO_3.out) gb312 (Nat.le_of_eq hg.symm)) hb); have n1_ := Aside0.mk (Kd.R_below (Kd.R_elderB (by (with_reducible repeat (first | apply Kd.R_alloc | apply Kd.R_drewN | apply Kd.R_drew)); exact HO_29.out) gb312 (Nat.le_of_eq hg.symm)) hb); have n2_ := Aside0.mk (blk_below (g := gb304) (o := .cells #[.int .i64 a0_0, .int .i64 a0_1, .slice A0_2 l0_2.length c0_2, .int .i64 a0_3] 24 (0, 0)) (by (with_reducible repeat (first | refine blk_drewN ?_ _ | refine blk_drew ?_ | refine blk_alloc ?_ _)); exact BK304.out) hb); have n3_ := Aside0.mk (below_step (by repeat (first | (with_reducible first | exact HB.out | apply below_alloc | apply pw_below_drewN | apply below_drew1 | refine below_set ?_ GE304.out) | exact HB.out)) hb); have n4_ := Aside0.mk (hbox); have n5_ := Aside0.mk ((by rw [hg]; exact (below_size (by repeat (first | (with_reducible first | exact HB.out | apply below_alloc | apply pw_below_drewN | apply below_drew1 | refine below_set ?_ GE304.out) | exact HB.out))) : w.heap.size ≤ gb312)); have n6_ := Aside0.mk ((by rw [hg]; exact (below_size (by repeat (first | (with_reducible first | exact HB.out | apply below_alloc | apply pw_below_drewN | apply below_drew1 | refine below_set ?_ GE304.out) | exact HB.out))) : w.heap.size ≤ gb312)); have n7_ := Aside0.mk ((by rw [hg]; exact Nat.ne_of_lt (blk_lt (g := gb304) (o := .cells #[.int .i64 a0_0, .int .i64 a0_1, .slice A0_2 l0_2.length c0_2, .int .i64 a0_3] 24 (0, 0)) (by (with_reducible repeat (first | refine blk_drewN ?_ _ | refine blk_drew ?_ | refine blk_alloc ?_ _)); exact BK304.out)) : gb304 ≠ gb312)); have n8_ := Aside0.mk ((by rw [hg]; exact Nat.ne_of_gt (blk_lt (g := gb304) (o := .cells #[.int .i64 a0_0, .int .i64 a0_1, .slice A0_2 l0_2.length c0_2, .int .i64 a0_3] 24 (0, 0)) (by (with_reducible repeat (first | refine blk_drewN ?_ _ | refine blk_drew ?_ | refine blk_alloc ?_ _)); exact BK304.out)) : gb312 ≠ gb304)); clear HO_3; clear HO_29; clear BK304; clear HB; have HO_3 := n0_; have HO_29 := n1_; have BK304 := n2_; have HB := n3_; have BK312 := n4_; have GW312 := n5_; have GE312 := n6_; have NB304_312 := n7_; have NB312_304 := n8_; clear n0_ n1_ n2_ n3_ n4_ n5_ n6_ n7_ n8_; clear hb hbox hg; have hnb29 := NB312_304.out; have hnc29 := NB304_312.out; have hcz30_0 : w28.cell? ⟨gb312, 0, none⟩ = some (.int .i64 0) := (blk_cell BK312.out 0).trans rfl; have hcz30_1 : w28.cell? ⟨gb312, 1, none⟩ = some (.int .i64 0) := (blk_cell BK312.out 1).trans rfl; have hcz30_2 : w28.cell? ⟨gb312, 2, none⟩ = some (.int .i64 0) := (blk_cell BK312.out 2).trans rfl; have hcz30_3 : w28.cell? ⟨gb312, 3, none⟩ = some (.int .i64 0) := (blk_cell BK312.out 3).trans rfl; have hfz30_0 := blk_frozen BK312.out 0; have hfz30_1 := blk_frozen BK312.out 1; have hfz30_2 := blk_frozen BK312.out 2; have hfz30_3 := blk_frozen BK312.out 3; have hcz31_0 : w28.cell? ⟨gb304, 0, none⟩ = some (.int .i64 a0_0) := (blk_cell BK304.out 0).trans rfl; have hcz31_1 : w28.cell? ⟨gb304, 1, none⟩ = some (.int .i64 a0_1) := (blk_cell BK304.out 1).trans rfl; have hcz31_2 : w28.cell? ⟨gb304, 2, none⟩ = some (.slice A0_2 l0_2.length c0_2) := (blk_cell BK304.out 2).trans rfl; have hcz31_3 : w28.cell? ⟨gb304, 3, none⟩ = some (.int .i64 a0_3) := (blk_cell BK304.out 3).trans rfl; have hfz31_0 := blk_frozen BK304.out 0; have hfz31_1 := blk_frozen BK304.out 1; have hfz31_2 := blk_frozen BK304.out 2; have hfz31_3 := blk_frozen BK304.out 3; have p313 : 0 ≤ ((ji23) : Int) := of_decide_eq_true (by first | (with_reducible assumption) | assumption); have q313 : (ji23) < (l0_2.length : Int) := of_decide_eq_true (by first | (with_reducible assumption) | assumption); obtain ⟨ad313, e313, hx313_0⟩ := Kd.at_int HR0_2.out (ji23) p313 q313; cases e313; have hn313_0 : ad313.block ≠ gb312 := Nat.ne_of_lt (Nat.lt_of_lt_of_le (by have := World.block_lt_of_cell? _ _ hx313_0; first | rwa [add_block] at this | exact this) GW312.out); have hn313_1 : ad313.block ≠ gb312 := Nat.ne_of_lt (Nat.lt_of_lt_of_le (by have := World.block_lt_of_cell? _ _ hx313_0; first | rwa [add_block] at this | exact this) GW312.out); have hn313_2 : ad313.block ≠ gb312 := Nat.ne_of_lt (Nat.lt_of_lt_of_le (by have := World.block_lt_of_cell? _ _ hx313_0; first | rwa [add_block] at this | exact this) GW312.out); have hn313_3 : ad313.block ≠ gb312 := Nat.ne_of_lt (Nat.lt_of_lt_of_le (by have := World.block_lt_of_cell? _ _ hx313_0; first | rwa [add_block] at this | exact this) GW312.out); try replace hx313_0 := (HB.out.cell (World.block_lt_of_cell? w _ hx313_0)).trans hx313_0; replace hx313_0 := (cell_far (p := ⟨gb312, 0, none⟩) (by first | (rw [add_block]; exact hn313_0) | (show (Addr.add _ _).block ≠ _; rw [add_block]; exact hn313_0) | exact hn313_0) (.int .i64 ((rd_T43 t307 x31_1).f0))).trans hx313_0; replace hx313_0 := (cell_far (p := ⟨gb312, 1, none⟩) (by first | (rw [add_block]; exact hn313_1) | (show (Addr.add _ _).block ≠ _; rw [add_block]; exact hn313_1) | exact hn313_1) (.int .i64 ((rd_T43 t307 x31_1).f1))).trans hx313_0; replace hx313_0 := (cell_far (p := ⟨gb312, 2, none⟩) (by first | (rw [add_block]; exact hn313_2) | (show (Addr.add _ _).block ≠ _; rw [add_block]; exact hn313_2) | exact hn313_2) (.int .i64 ((rd_T43 t307 x31_1).f2))).trans hx313_0; replace hx313_0 := (cell_far (p := ⟨gb312, 3, none⟩) (by first | (rw [add_block]; exact hn313_3) | (show (Addr.add _ _).block ≠ _; rw [add_block]; exact hn313_3) | exact hn313_3) (.int .i64 ((rd_T43 t307 x31_1).f3))).trans hx313_0; (try have hy313_0 := fun (n_ : Nat) => (show ((((((w28.drewN n_).setCell ⟨gb312, 0, none⟩ (.int .i64 ((rd_T43 t307 x31_1).f0))).setCell ⟨gb312, 1, none⟩ (.int .i64 ((rd_T43 t307 x31_1).f1))).setCell ⟨gb312, 2, none⟩ (.int .i64 ((rd_T43 t307 x31_1).f2))).setCell ⟨gb312, 3, none⟩ (.int .i64 ((rd_T43 t307 x31_1).f3)))).cell? _ = some _ from hx313_0)); clear hn313_0; clear hn313_1; clear hn313_2; clear hn313_3; replace p313 := eq_true p313; replace q313 := eq_true q313) | (go_at_call 19; (with_reducible refine (rate_Interest.calls k1 x5_1 (rd l0_2 (ji23)) t314 t315 _ A26.out).mono ?_); rintro e w32 ⟨rfl, hb⟩; have n0_ := Aside0.mk (Kd.R_below (by (with_reducible repeat (first | apply Kd.R_alloc | apply Kd.R_drewN | apply Kd.R_drew)); exact (Kd.R_mono (Kd.R_far (p := ⟨gb312, 3, none⟩) (Kd.R_far (p := ⟨gb312, 2, none⟩) (Kd.R_far (p := ⟨gb312, 1, none⟩) (Kd.R_far (p := ⟨gb312, 0, none⟩) (Kd.R_mono HO_3.out (fun k_ hk => (⟨hk, hk.2⟩ : _ ∧ k_ ≠ gb312))) (fun _ hk => hk.2) (.int .i64 ((rd_T43 t307 x31_1).f0))) (fun _ hk => hk.2) (.int .i64 ((rd_T43 t307 x31_1).f1))) (fun _ hk => hk.2) (.int .i64 ((rd_T43 t307 x31_1).f2))) (fun _ hk => hk.2) (.int .i64 ((rd_T43 t307 x31_1).f3))) (fun _ h_ => h_.1))) hb); have n1_ := Aside0.mk (Kd.R_below (by (with_reducible repeat (first | apply Kd.R_alloc | apply Kd.R_drewN | apply Kd.R_drew)); exact (Kd.R_mono (Kd.R_far (p := ⟨gb312, 3, none⟩) (Kd.R_far (p := ⟨gb312, 2, none⟩) (Kd.R_far (p := ⟨gb312, 1, none⟩) (Kd.R_far (p := ⟨gb312, 0, none⟩) (Kd.R_mono HO_29.out (fun k_ hk => (⟨hk, hk.2⟩ : _ ∧ k_ ≠ gb312))) (fun _ hk => hk.2) (.int .i64 ((rd_T43 t307 x31_1).f0))) (fun _ hk => hk.2) (.int .i64 ((rd_T43 t307 x31_1).f1))) (fun _ hk => hk.2) (.int .i64 ((rd_T43 t307 x31_1).f2))) (fun _ hk => hk.2) (.int .i64 ((rd_T43 t307 x31_1).f3))) (fun _ h_ => h_.1))) hb); have n2_ := Aside0.mk (blk_below (g := gb304) (o := .cells #[.int .i64 a0_0, .int .i64 a0_1, .slice (some ad313) l0_2.length c0_2, .int .i64 a0_3] 24 (0, 0)) (by (with_reducible repeat (first | refine blk_drewN ?_ _ | refine blk_drew ?_ | refine blk_alloc ?_ _)); refine blk_far ?_ NB304_312.out _; (with_reducible repeat (first | refine blk_drewN ?_ _ | refine blk_drew ?_ | refine blk_alloc ?_ _)); refine blk_far ?_ NB304_312.out _; (with_reducible repeat (first | refine blk_drewN ?_ _ | refine blk_drew ?_ | refine blk_alloc ?_ _)); refine blk_far ?_ NB304_312.out _; (with_reducible repeat (first | refine blk_drewN ?_ _ | refine blk_drew ?_ | refine blk_alloc ?_ _)); refine blk_far ?_ NB304_312.out _; (with_reducible repeat (first | refine blk_drewN ?_ _ | refine blk_drew ?_ | refine blk_alloc ?_ _)); exact BK304.out) hb); have n3_ := Aside0.mk (blk_below (g := gb312) (o := .cells #[.int .i64 ((rd_T43 t307 x31_1).f0), .int .i64 ((rd_T43 t307 x31_1).f1), .int .i64 ((rd_T43 t307 x31_1).f2), .int .i64 ((rd_T43 t307 x31_1).f3)] 43 (0, 0)) (by (with_reducible repeat (first | refine blk_drewN ?_ _ | refine blk_drew ?_ | refine blk_alloc ?_ _)); refine blk_put (cs := #[.int .i64 ((rd_T43 t307 x31_1).f0), .int .i64 ((rd_T43 t307 x31_1).f1), .int .i64 ((rd_T43 t307 x31_1).f2), .int .i64 0]) ?_ 3 _ rfl; (with_reducible repeat (first | refine blk_drewN ?_ _ | refine blk_drew ?_ | refine blk_alloc ?_ _)); refine blk_put (cs := #[.int .i64 ((rd_T43 t307 x31_1).f0), .int .i64 ((rd_T43 t307 x31_1).f1), .int .i64 0, .int .i64 0]) ?_ 2 _ rfl; (with_reducible repeat (first | refine blk_drewN ?_ _ | refine blk_drew ?_ | refine blk_alloc ?_ _)); refine blk_put (cs := #[.int .i64 ((rd_T43 t307 x31_1).f0), .int .i64 0, .int .i64 0, .int .i64 0]) ?_ 1 _ rfl; (with_reducible repeat (first | refine blk_drewN ?_ _ | refine blk_drew ?_ | refine blk_alloc ?_ _)); refine blk_put (cs := #[.int .i64 0, .int .i64 0, .int .i64 0, .int .i64 0]) ?_ 0 _ rfl; (with_reducible repeat (first | refine blk_drewN ?_ _ | refine blk_drew ?_ | refine blk_alloc ?_ _)); exact BK312.out) hb); have n4_ := Aside0.mk (below_step (by repeat (first | (with_reducible first | exact HB.out | apply below_alloc | apply pw_below_drewN | apply below_drew1 | refine below_set ?_ GE304.out | refine below_set ?_ GE312.out) | exact HB.out)) hb); clear HO_3; clear HO_29; clear BK304; clear BK312; clear HB; have HO_3 := n0_; have HO_29 := n1_; have BK304 := n2_; have BK312 := n3_; have HB := n4_; clear n0_ n1_ n2_ n3_ n4_; (try clear hb); (try clear hb2); (try clear hk); (try clear hi))))
                      have H := HC27.out
                      clear HC27
                      by_cases c33 : t315 = 0
                      · rw [if_pos c33] at H
                        have c33b0 : (t315 == 0) = true := beq_iff_eq.mpr c33
                        have c33b1 : (t315 != 0) = false := bne_eq_false_iff_eq.mpr c33
                        clear c33
                        by_cases c34 : ((rd_T43 t307 x31_1).f0) = t314
                        · rw [if_pos c34] at H
                          have c34b0 : (((rd_T43 t307 x31_1).f0) == t314) = true := beq_iff_eq.mpr c34
                          have c34b1 : (((rd_T43 t307 x31_1).f0) != t314) = false := bne_eq_false_iff_eq.mpr c34
                          clear c34
                          by_cases c35 : ((rd_T43 t307 x31_1).f1) = (wrap64 (((rd_T43 t307 x31_1).f0) + ((rd_T43 t307 x31_1).f2)))
                          · rw [if_pos c35] at H
                            have c35b0 : (((rd_T43 t307 x31_1).f1) == (wrap64 (((rd_T43 t307 x31_1).f0) + ((rd_T43 t307 x31_1).f2)))) = true := beq_iff_eq.mpr c35
                            have c35b1 : (((rd_T43 t307 x31_1).f1) != (wrap64 (((rd_T43 t307 x31_1).f0) + ((rd_T43 t307 x31_1).f2)))) = false := bne_eq_false_iff_eq.mpr c35
                            clear c35
                            by_cases c36 : ((rd_T43 t307 x31_1).f3) = (wrap64 (x5_1 - ((rd_T43 t307 x31_1).f2)))
                            · rw [if_pos c36] at H
                              have c36b0 : (((rd_T43 t307 x31_1).f3) == (wrap64 (x5_1 - ((rd_T43 t307 x31_1).f2)))) = true := beq_iff_eq.mpr c36
                              have c36b1 : (((rd_T43 t307 x31_1).f3) != (wrap64 (x5_1 - ((rd_T43 t307 x31_1).f2)))) = false := bne_eq_false_iff_eq.mpr c36
                              clear c36
                              by_cases c37 : ((rd_T43 t307 x31_1).f1) < 0
                              · rw [if_pos c37] at H
                                have c37b0 : decide (((rd_T43 t307 x31_1).f1) < 0) = true := decide_eq_true c37
                                clear c37
                                obtain rfl := Option.some.inj H
                                have hnb38 := NB312_304.out
                                have hnc38 := NB304_312.out
                                have hcz39_0 : w32.cell? ⟨gb312, 0, none⟩ = some (.int .i64 ((rd_T43 t307 x31_1).f0)) := (blk_cell BK312.out 0).trans rfl
                                have hcz39_1 : w32.cell? ⟨gb312, 1, none⟩ = some (.int .i64 ((rd_T43 t307 x31_1).f1)) := (blk_cell BK312.out 1).trans rfl
                                have hcz39_2 : w32.cell? ⟨gb312, 2, none⟩ = some (.int .i64 ((rd_T43 t307 x31_1).f2)) := (blk_cell BK312.out 2).trans rfl
                                have hcz39_3 : w32.cell? ⟨gb312, 3, none⟩ = some (.int .i64 ((rd_T43 t307 x31_1).f3)) := (blk_cell BK312.out 3).trans rfl
                                have hfz39_0 := blk_frozen BK312.out 0
                                have hfz39_1 := blk_frozen BK312.out 1
                                have hfz39_2 := blk_frozen BK312.out 2
                                have hfz39_3 := blk_frozen BK312.out 3
                                go_wp2
                                repeat (go_quiet (fail); try go_wp2)
                                go_ret
                                exact ⟨by first | rfl | (simp [errW_none, errW_some] <;> rfl) | (simp only [← hji23]; first | rfl | (simp [errW_none, errW_some] <;> rfl)) | (simp [*, errW_none, errW_some] <;> rfl), by repeat (first | (with_reducible first | exact HB.out | apply below_alloc | apply pw_below_drewN | apply below_drew1 | refine below_set ?_ GE304.out | refine below_set ?_ GE312.out) | exact HB.out)⟩
                              · rw [if_neg c37] at H
                                have c37b0 : decide (((rd_T43 t307 x31_1).f1) < 0) = false := decide_eq_false c37
                                clear c37
                                by_cases c40 : ((rd_T43 t307 x31_1).f3) < 0
                                · rw [if_pos c40] at H
                                  have c40b0 : decide (((rd_T43 t307 x31_1).f3) < 0) = true := decide_eq_true c40
                                  clear c40
                                  obtain rfl := Option.some.inj H
                                  have hnb41 := NB312_304.out
                                  have hnc41 := NB304_312.out
                                  have hcz42_0 : w32.cell? ⟨gb312, 0, none⟩ = some (.int .i64 ((rd_T43 t307 x31_1).f0)) := (blk_cell BK312.out 0).trans rfl
                                  have hcz42_1 : w32.cell? ⟨gb312, 1, none⟩ = some (.int .i64 ((rd_T43 t307 x31_1).f1)) := (blk_cell BK312.out 1).trans rfl
                                  have hcz42_2 : w32.cell? ⟨gb312, 2, none⟩ = some (.int .i64 ((rd_T43 t307 x31_1).f2)) := (blk_cell BK312.out 2).trans rfl
                                  have hcz42_3 : w32.cell? ⟨gb312, 3, none⟩ = some (.int .i64 ((rd_T43 t307 x31_1).f3)) := (blk_cell BK312.out 3).trans rfl
                                  have hfz42_0 := blk_frozen BK312.out 0
                                  have hfz42_1 := blk_frozen BK312.out 1
                                  have hfz42_2 := blk_frozen BK312.out 2
                                  have hfz42_3 := blk_frozen BK312.out 3
                                  go_wp2
                                  repeat (go_quiet (fail); try go_wp2)
                                  go_ret
                                  exact ⟨by first | rfl | (simp [errW_none, errW_some] <;> rfl) | (simp only [← hji23]; first | rfl | (simp [errW_none, errW_some] <;> rfl)) | (simp [*, errW_none, errW_some] <;> rfl), by repeat (first | (with_reducible first | exact HB.out | apply below_alloc | apply pw_below_drewN | apply below_drew1 | refine below_set ?_ GE304.out | refine below_set ?_ GE312.out) | exact HB.out)⟩
                                · rw [if_neg c40] at H
                                  have c40b0 : decide (((rd_T43 t307 x31_1).f3) < 0) = false := decide_eq_false c40
                                  clear c40
                                  by_cases c43 : ((rd_T43 t307 x31_1).f3) > 10000000000000
                                  · rw [if_pos c43] at H
                                    have c43b0 : decide (10000000000000 < ((rd_T43 t307 x31_1).f3)) = true := decide_eq_true c43
                                    clear c43
                                    obtain rfl := Option.some.inj H
                                    have hnb44 := NB312_304.out
                                    have hnc44 := NB304_312.out
                                    have hcz45_0 : w32.cell? ⟨gb312, 0, none⟩ = some (.int .i64 ((rd_T43 t307 x31_1).f0)) := (blk_cell BK312.out 0).trans rfl
                                    have hcz45_1 : w32.cell? ⟨gb312, 1, none⟩ = some (.int .i64 ((rd_T43 t307 x31_1).f1)) := (blk_cell BK312.out 1).trans rfl
                                    have hcz45_2 : w32.cell? ⟨gb312, 2, none⟩ = some (.int .i64 ((rd_T43 t307 x31_1).f2)) := (blk_cell BK312.out 2).trans rfl
                                    have hcz45_3 : w32.cell? ⟨gb312, 3, none⟩ = some (.int .i64 ((rd_T43 t307 x31_1).f3)) := (blk_cell BK312.out 3).trans rfl
                                    have hfz45_0 := blk_frozen BK312.out 0
                                    have hfz45_1 := blk_frozen BK312.out 1
                                    have hfz45_2 := blk_frozen BK312.out 2
                                    have hfz45_3 := blk_frozen BK312.out 3
                                    go_wp2
                                    repeat (go_quiet (fail); try go_wp2)
                                    go_ret
                                    exact ⟨by first | rfl | (simp [errW_none, errW_some] <;> rfl) | (simp only [← hji23]; first | rfl | (simp [errW_none, errW_some] <;> rfl)) | (simp [*, errW_none, errW_some] <;> rfl), by repeat (first | (with_reducible first | exact HB.out | apply below_alloc | apply pw_below_drewN | apply below_drew1 | refine below_set ?_ GE304.out | refine below_set ?_ GE312.out) | exact HB.out)⟩
                                  · rw [if_neg c43] at H
                                    have c43b0 : decide (10000000000000 < ((rd_T43 t307 x31_1).f3)) = false := decide_eq_false c43
                                    clear c43
                                    have H' := Aside0.mk H
                                    clear H
                                    have hnb46 := NB312_304.out
                                    have hnc46 := NB304_312.out
                                    have hcz47_0 : w32.cell? ⟨gb312, 0, none⟩ = some (.int .i64 ((rd_T43 t307 x31_1).f0)) := (blk_cell BK312.out 0).trans rfl
                                    have hcz47_1 : w32.cell? ⟨gb312, 1, none⟩ = some (.int .i64 ((rd_T43 t307 x31_1).f1)) := (blk_cell BK312.out 1).trans rfl
                                    have hcz47_2 : w32.cell? ⟨gb312, 2, none⟩ = some (.int .i64 ((rd_T43 t307 x31_1).f2)) := (blk_cell BK312.out 2).trans rfl
                                    have hcz47_3 : w32.cell? ⟨gb312, 3, none⟩ = some (.int .i64 ((rd_T43 t307 x31_1).f3)) := (blk_cell BK312.out 3).trans rfl
                                    have hfz47_0 := blk_frozen BK312.out 0
                                    have hfz47_1 := blk_frozen BK312.out 1
                                    have hfz47_2 := blk_frozen BK312.out 2
                                    have hfz47_3 := blk_frozen BK312.out 3
                                    go_wp2
                                    repeat (go_quiet (fail); try go_wp2)
                                    go_roundg k1
                                    case measure => have := HK1.out; omega
                                    case rel => exact ⟨((rd_T43 t307 x31_1).f3), (wrap64 (x6_1 + ((rd_T43 t307 x31_1).f2))), (wrap64 (x7_1 + ((rd_T43 t307 x31_1).f0))), (wrap64 (x8_1 + ((rd_T43 t307 x31_1).f1))), (wrap64 (x31_1 + 1)), (by first | rfl | (simp; done) | (simp [*]; done)), (by first | rfl | (simp; done) | (simp [*]; done)), (by first | rfl | (simp; done) | (simp [*]; done)), (by first | rfl | (simp; done) | (simp [*]; done)), (by first | rfl | (simp; done) | (simp [*]; done)), H', ⟨by have := HK1.out; omega⟩, ⟨by (with_reducible repeat (first | apply Kd.R_alloc | apply Kd.R_drewN | apply Kd.R_drew)); exact Kd.R_mono HO_3.out (fun _ hk => trivial)⟩, ⟨by (with_reducible repeat (first | apply Kd.R_alloc | apply Kd.R_drewN | apply Kd.R_drew)); exact Kd.R_mono HO_29.out (fun _ hk => trivial)⟩, ⟨by (with_reducible repeat (first | refine blk_drewN ?_ _ | refine blk_drew ?_ | refine blk_alloc ?_ _)); exact BK304.out⟩, ⟨by repeat (first | (with_reducible first | exact HB.out | apply below_alloc | apply pw_below_drewN | apply below_drew1 | refine below_set ?_ GE304.out | refine below_set ?_ GE312.out) | exact HB.out)⟩⟩
                            · rw [if_neg c36] at H
                              have c36b0 : (((rd_T43 t307 x31_1).f3) == (wrap64 (x5_1 - ((rd_T43 t307 x31_1).f2)))) = false := beq_eq_false_iff_ne.mpr c36
                              have c36b1 : (((rd_T43 t307 x31_1).f3) != (wrap64 (x5_1 - ((rd_T43 t307 x31_1).f2)))) = true := bne_iff_ne.mpr c36
                              obtain rfl := Option.some.inj H
                              have hnb48 := NB312_304.out
                              have hnc48 := NB304_312.out
                              have hcz49_0 : w32.cell? ⟨gb312, 0, none⟩ = some (.int .i64 ((rd_T43 t307 x31_1).f0)) := (blk_cell BK312.out 0).trans rfl
                              have hcz49_1 : w32.cell? ⟨gb312, 1, none⟩ = some (.int .i64 ((rd_T43 t307 x31_1).f1)) := (blk_cell BK312.out 1).trans rfl
                              have hcz49_2 : w32.cell? ⟨gb312, 2, none⟩ = some (.int .i64 ((rd_T43 t307 x31_1).f2)) := (blk_cell BK312.out 2).trans rfl
                              have hcz49_3 : w32.cell? ⟨gb312, 3, none⟩ = some (.int .i64 ((rd_T43 t307 x31_1).f3)) := (blk_cell BK312.out 3).trans rfl
                              have hfz49_0 := blk_frozen BK312.out 0
                              have hfz49_1 := blk_frozen BK312.out 1
                              have hfz49_2 := blk_frozen BK312.out 2
                              have hfz49_3 := blk_frozen BK312.out 3
                              go_wp2
                              repeat (go_quiet (fail); try go_wp2)
                              go_ret
                              exact ⟨by first | rfl | (simp [errW_none, errW_some] <;> rfl) | (simp only [← hji23]; first | rfl | (simp [errW_none, errW_some] <;> rfl)) | (simp [*, errW_none, errW_some] <;> rfl), by repeat (first | (with_reducible first | exact HB.out | apply below_alloc | apply pw_below_drewN | apply below_drew1 | refine below_set ?_ GE304.out | refine below_set ?_ GE312.out) | exact HB.out)⟩
                          · rw [if_neg c35] at H
                            have c35b0 : (((rd_T43 t307 x31_1).f1) == (wrap64 (((rd_T43 t307 x31_1).f0) + ((rd_T43 t307 x31_1).f2)))) = false := beq_eq_false_iff_ne.mpr c35
                            have c35b1 : (((rd_T43 t307 x31_1).f1) != (wrap64 (((rd_T43 t307 x31_1).f0) + ((rd_T43 t307 x31_1).f2)))) = true := bne_iff_ne.mpr c35
                            obtain rfl := Option.some.inj H
                            have hnb50 := NB312_304.out
                            have hnc50 := NB304_312.out
                            have hcz51_0 : w32.cell? ⟨gb312, 0, none⟩ = some (.int .i64 ((rd_T43 t307 x31_1).f0)) := (blk_cell BK312.out 0).trans rfl
                            have hcz51_1 : w32.cell? ⟨gb312, 1, none⟩ = some (.int .i64 ((rd_T43 t307 x31_1).f1)) := (blk_cell BK312.out 1).trans rfl
                            have hcz51_2 : w32.cell? ⟨gb312, 2, none⟩ = some (.int .i64 ((rd_T43 t307 x31_1).f2)) := (blk_cell BK312.out 2).trans rfl
                            have hcz51_3 : w32.cell? ⟨gb312, 3, none⟩ = some (.int .i64 ((rd_T43 t307 x31_1).f3)) := (blk_cell BK312.out 3).trans rfl
                            have hfz51_0 := blk_frozen BK312.out 0
                            have hfz51_1 := blk_frozen BK312.out 1
                            have hfz51_2 := blk_frozen BK312.out 2
                            have hfz51_3 := blk_frozen BK312.out 3
                            go_wp2
                            repeat (go_quiet (fail); try go_wp2)
                            go_ret
                            exact ⟨by first | rfl | (simp [errW_none, errW_some] <;> rfl) | (simp only [← hji23]; first | rfl | (simp [errW_none, errW_some] <;> rfl)) | (simp [*, errW_none, errW_some] <;> rfl), by repeat (first | (with_reducible first | exact HB.out | apply below_alloc | apply pw_below_drewN | apply below_drew1 | refine below_set ?_ GE304.out | refine below_set ?_ GE312.out) | exact HB.out)⟩
                        · rw [if_neg c34] at H
                          have c34b0 : (((rd_T43 t307 x31_1).f0) == t314) = false := beq_eq_false_iff_ne.mpr c34
                          have c34b1 : (((rd_T43 t307 x31_1).f0) != t314) = true := bne_iff_ne.mpr c34
                          obtain rfl := Option.some.inj H
                          have hnb52 := NB312_304.out
                          have hnc52 := NB304_312.out
                          have hcz53_0 : w32.cell? ⟨gb312, 0, none⟩ = some (.int .i64 ((rd_T43 t307 x31_1).f0)) := (blk_cell BK312.out 0).trans rfl
                          have hcz53_1 : w32.cell? ⟨gb312, 1, none⟩ = some (.int .i64 ((rd_T43 t307 x31_1).f1)) := (blk_cell BK312.out 1).trans rfl
                          have hcz53_2 : w32.cell? ⟨gb312, 2, none⟩ = some (.int .i64 ((rd_T43 t307 x31_1).f2)) := (blk_cell BK312.out 2).trans rfl
                          have hcz53_3 : w32.cell? ⟨gb312, 3, none⟩ = some (.int .i64 ((rd_T43 t307 x31_1).f3)) := (blk_cell BK312.out 3).trans rfl
                          have hfz53_0 := blk_frozen BK312.out 0
                          have hfz53_1 := blk_frozen BK312.out 1
                          have hfz53_2 := blk_frozen BK312.out 2
                          have hfz53_3 := blk_frozen BK312.out 3
                          go_wp2
                          repeat (go_quiet (fail); try go_wp2)
                          go_ret
                          exact ⟨by first | rfl | (simp [errW_none, errW_some] <;> rfl) | (simp only [← hji23]; first | rfl | (simp [errW_none, errW_some] <;> rfl)) | (simp [*, errW_none, errW_some] <;> rfl), by repeat (first | (with_reducible first | exact HB.out | apply below_alloc | apply pw_below_drewN | apply below_drew1 | refine below_set ?_ GE304.out | refine below_set ?_ GE312.out) | exact HB.out)⟩
                      · rw [if_neg c33] at H
                        have c33b0 : (t315 == 0) = false := beq_eq_false_iff_ne.mpr c33
                        have c33b1 : (t315 != 0) = true := bne_iff_ne.mpr c33
                        obtain rfl := Option.some.inj H
                        go_wp2
                        repeat (go_quiet (fail); try go_wp2)
                        go_ret
                        exact ⟨by first | rfl | (simp [errW_none, errW_some] <;> rfl) | (simp only [← hji23]; first | rfl | (simp [errW_none, errW_some] <;> rfl)) | (simp [*, errW_none, errW_some] <;> rfl), by repeat (first | (with_reducible first | exact HB.out | apply below_alloc | apply pw_below_drewN | apply below_drew1 | refine below_set ?_ GE304.out | refine below_set ?_ GE312.out) | exact HB.out)⟩
                    · rw [if_neg c25] at H
                      exact absurd H (by simp)
                  · rw [if_neg c24] at H
                    exact absurd H (by simp)
                · rw [if_neg c22] at H
                  exact absurd H (by simp)
              · rw [if_neg c21] at H
                exact absurd H (by simp)
            · rw [if_neg c20] at H
              have c20b0 : decide (x31_1 < (t307.length : Int)) = false := decide_eq_false c20
              clear c20
              by_cases c54 : (t307.length : Int) = a0_3
              · rw [if_pos c54] at H
                have c54b0 : ((t307.length : Int) == a0_3) = true := beq_iff_eq.mpr c54
                have c54b1 : ((t307.length : Int) != a0_3) = false := bne_eq_false_iff_eq.mpr c54
                clear c54
                by_cases c55 : x5_1 = 0
                · rw [if_pos c55] at H
                  have c55b0 : (x5_1 == 0) = true := beq_iff_eq.mpr c55
                  have c55b1 : (x5_1 != 0) = false := bne_eq_false_iff_eq.mpr c55
                  clear c55
                  by_cases c56 : x6_1 = a0_1
                  · rw [if_pos c56] at H
                    have c56b0 : (x6_1 == a0_1) = true := beq_iff_eq.mpr c56
                    have c56b1 : (x6_1 != a0_1) = false := bne_eq_false_iff_eq.mpr c56
                    clear c56
                    obtain rfl := Option.some.inj H
                    have hcz57_0 : wr.cell? ⟨gb304, 0, none⟩ = some (.int .i64 a0_0) := (blk_cell BK304.out 0).trans rfl
                    have hcz57_1 : wr.cell? ⟨gb304, 1, none⟩ = some (.int .i64 a0_1) := (blk_cell BK304.out 1).trans rfl
                    have hcz57_2 : wr.cell? ⟨gb304, 2, none⟩ = some (.slice A0_2 l0_2.length c0_2) := (blk_cell BK304.out 2).trans rfl
                    have hcz57_3 : wr.cell? ⟨gb304, 3, none⟩ = some (.int .i64 a0_3) := (blk_cell BK304.out 3).trans rfl
                    have hfz57_0 := blk_frozen BK304.out 0
                    have hfz57_1 := blk_frozen BK304.out 1
                    have hfz57_2 := blk_frozen BK304.out 2
                    have hfz57_3 := blk_frozen BK304.out 3
                    go_wp2
                    repeat (go_quiet (fail); try go_wp2)
                    go_ret
                    exact ⟨by first | rfl | (simp [errW_none, errW_some] <;> rfl) | (simp [*, errW_none, errW_some] <;> rfl), by repeat (first | (with_reducible first | exact HB.out | apply below_alloc | apply pw_below_drewN | apply below_drew1 | refine below_set ?_ GE304.out) | exact HB.out)⟩
                  · rw [if_neg c56] at H
                    have c56b0 : (x6_1 == a0_1) = false := beq_eq_false_iff_ne.mpr c56
                    have c56b1 : (x6_1 != a0_1) = true := bne_iff_ne.mpr c56
                    obtain rfl := Option.some.inj H
                    have hcz58_0 : wr.cell? ⟨gb304, 0, none⟩ = some (.int .i64 a0_0) := (blk_cell BK304.out 0).trans rfl
                    have hcz58_1 : wr.cell? ⟨gb304, 1, none⟩ = some (.int .i64 a0_1) := (blk_cell BK304.out 1).trans rfl
                    have hcz58_2 : wr.cell? ⟨gb304, 2, none⟩ = some (.slice A0_2 l0_2.length c0_2) := (blk_cell BK304.out 2).trans rfl
                    have hcz58_3 : wr.cell? ⟨gb304, 3, none⟩ = some (.int .i64 a0_3) := (blk_cell BK304.out 3).trans rfl
                    have hfz58_0 := blk_frozen BK304.out 0
                    have hfz58_1 := blk_frozen BK304.out 1
                    have hfz58_2 := blk_frozen BK304.out 2
                    have hfz58_3 := blk_frozen BK304.out 3
                    go_wp2
                    repeat (go_quiet (fail); try go_wp2)
                    go_ret
                    exact ⟨by first | rfl | (simp [errW_none, errW_some] <;> rfl) | (simp [*, errW_none, errW_some] <;> rfl), by repeat (first | (with_reducible first | exact HB.out | apply below_alloc | apply pw_below_drewN | apply below_drew1 | refine below_set ?_ GE304.out) | exact HB.out)⟩
                · rw [if_neg c55] at H
                  have c55b0 : (x5_1 == 0) = false := beq_eq_false_iff_ne.mpr c55
                  have c55b1 : (x5_1 != 0) = true := bne_iff_ne.mpr c55
                  obtain rfl := Option.some.inj H
                  have hcz59_0 : wr.cell? ⟨gb304, 0, none⟩ = some (.int .i64 a0_0) := (blk_cell BK304.out 0).trans rfl
                  have hcz59_1 : wr.cell? ⟨gb304, 1, none⟩ = some (.int .i64 a0_1) := (blk_cell BK304.out 1).trans rfl
                  have hcz59_2 : wr.cell? ⟨gb304, 2, none⟩ = some (.slice A0_2 l0_2.length c0_2) := (blk_cell BK304.out 2).trans rfl
                  have hcz59_3 : wr.cell? ⟨gb304, 3, none⟩ = some (.int .i64 a0_3) := (blk_cell BK304.out 3).trans rfl
                  have hfz59_0 := blk_frozen BK304.out 0
                  have hfz59_1 := blk_frozen BK304.out 1
                  have hfz59_2 := blk_frozen BK304.out 2
                  have hfz59_3 := blk_frozen BK304.out 3
                  go_wp2
                  repeat (go_quiet (fail); try go_wp2)
                  go_ret
                  exact ⟨by first | rfl | (simp [errW_none, errW_some] <;> rfl) | (simp [*, errW_none, errW_some] <;> rfl), by repeat (first | (with_reducible first | exact HB.out | apply below_alloc | apply pw_below_drewN | apply below_drew1 | refine below_set ?_ GE304.out) | exact HB.out)⟩
              · rw [if_neg c54] at H
                have c54b0 : ((t307.length : Int) == a0_3) = false := beq_eq_false_iff_ne.mpr c54
                have c54b1 : ((t307.length : Int) != a0_3) = true := bne_iff_ne.mpr c54
                obtain rfl := Option.some.inj H
                have hcz60_0 : wr.cell? ⟨gb304, 0, none⟩ = some (.int .i64 a0_0) := (blk_cell BK304.out 0).trans rfl
                have hcz60_1 : wr.cell? ⟨gb304, 1, none⟩ = some (.int .i64 a0_1) := (blk_cell BK304.out 1).trans rfl
                have hcz60_2 : wr.cell? ⟨gb304, 2, none⟩ = some (.slice A0_2 l0_2.length c0_2) := (blk_cell BK304.out 2).trans rfl
                have hcz60_3 : wr.cell? ⟨gb304, 3, none⟩ = some (.int .i64 a0_3) := (blk_cell BK304.out 3).trans rfl
                have hfz60_0 := blk_frozen BK304.out 0
                have hfz60_1 := blk_frozen BK304.out 1
                have hfz60_2 := blk_frozen BK304.out 2
                have hfz60_3 := blk_frozen BK304.out 3
                go_wp2
                repeat (go_quiet (fail); try go_wp2)
                go_ret
                exact ⟨by first | rfl | (simp [errW_none, errW_some] <;> rfl) | (simp [*, errW_none, errW_some] <;> rfl), by repeat (first | (with_reducible first | exact HB.out | apply below_alloc | apply pw_below_drewN | apply below_drew1 | refine below_set ?_ GE304.out) | exact HB.out)⟩
      · rw [if_neg c11] at H
        have c11b0 : (t310 == 0) = false := beq_eq_false_iff_ne.mpr c11
        have c11b1 : (t310 != 0) = true := bne_iff_ne.mpr c11
        obtain rfl := Option.some.inj H
        go_enter Try.func5, Try.ntmps5
        go_wp2_with (first | ((with_reducible refine gate_dst (N := 1) rfl ?_); refine box_event ?hg (N := 1) ?hd (cs := #[.int .i64 a0_0, .int .i64 a0_1, .slice A0_2 l0_2.length c0_2, .int .i64 a0_3]) (t := 24) ?hr ?_; (case hd => rfl); (case hg => rfl); (case hr => first | (go_simp; done) | (go_simp; rfl)); intro gb304 hg w61 hbox hb; have n0_ := Aside0.mk (below_step (by repeat (first | (with_reducible first | exact HB.out | apply below_alloc | apply pw_below_drewN | apply below_drew1) | exact HB.out)) hb); have n1_ := Aside0.mk (hbox); have n2_ := Aside0.mk ((by rw [hg]; exact (below_size (by repeat (first | (with_reducible first | exact HB.out | apply below_alloc | apply pw_below_drewN | apply below_drew1) | exact HB.out))) : w.heap.size ≤ gb304)); have n3_ := Aside0.mk ((by rw [hg]; exact (below_size (by repeat (first | (with_reducible first | exact HB.out | apply below_alloc | apply pw_below_drewN | apply below_drew1) | exact HB.out))) : w.heap.size ≤ gb304)); clear HB; have HB := n0_; have BK304 := n1_; have GW304 := n2_; have GE304 := n3_; clear n0_ n1_ n2_ n3_; clear hb hbox hg) | (go_at_call 9; (with_reducible refine (lombardlaw08_alive.calls k  true _ A2.out).mono ?_); rintro e w62 ⟨rfl, hb⟩; have n0_ := Aside0.mk (blk_below (g := gb304) (o := .cells #[.int .i64 a0_0, .int .i64 a0_1, .slice A0_2 l0_2.length c0_2, .int .i64 a0_3] 24 (0, 0)) (by (with_reducible repeat (first | refine blk_drewN ?_ _ | refine blk_drew ?_ | refine blk_alloc ?_ _)); exact BK304.out) hb); have n1_ := Aside0.mk (below_step (by repeat (first | (with_reducible first | exact HB.out | apply below_alloc | apply pw_below_drewN | apply below_drew1 | refine below_set ?_ GE304.out) | exact HB.out)) hb); clear BK304; clear HB; have BK304 := n0_; have HB := n1_; clear n0_ n1_; (try clear hb); (try clear hb2); (try clear hk); (try clear hi); have hcz63_0 : w62.cell? ⟨gb304, 0, none⟩ = some (.int .i64 a0_0) := (blk_cell BK304.out 0).trans rfl; have hcz63_1 : w62.cell? ⟨gb304, 1, none⟩ = some (.int .i64 a0_1) := (blk_cell BK304.out 1).trans rfl; have hcz63_2 : w62.cell? ⟨gb304, 2, none⟩ = some (.slice A0_2 l0_2.length c0_2) := (blk_cell BK304.out 2).trans rfl; have hcz63_3 : w62.cell? ⟨gb304, 3, none⟩ = some (.int .i64 a0_3) := (blk_cell BK304.out 3).trans rfl; have hfz63_0 := blk_frozen BK304.out 0; have hfz63_1 := blk_frozen BK304.out 1; have hfz63_2 := blk_frozen BK304.out 2; have hfz63_3 := blk_frozen BK304.out 3) | (go_at_call 10; (with_reducible refine (lombardlaw08_great.calls a0_0 a0_1 _ _ l0_2 a0_3 false _ ?side1 ?side2 A4.out).mono ?_); (case side1 => repeat (first | exact (Kd.C_below HR0_2.out HB.out) | (with_reducible refine Kd.C_alloc ?_ _) | (with_reducible refine Kd.C_drewN ?_ _) | (with_reducible refine Kd.C_drew ?_))); (case side2 => exact HC0_2.out); rintro e w64 ⟨rfl, hb⟩; have n0_ := Aside0.mk (blk_below (g := gb304) (o := .cells #[.int .i64 a0_0, .int .i64 a0_1, .slice A0_2 l0_2.length c0_2, .int .i64 a0_3] 24 (0, 0)) (by (with_reducible repeat (first | refine blk_drewN ?_ _ | refine blk_drew ?_ | refine blk_alloc ?_ _)); exact BK304.out) hb); have n1_ := Aside0.mk (below_step (by repeat (first | (with_reducible first | exact HB.out | apply below_alloc | apply pw_below_drewN | apply below_drew1 | refine below_set ?_ GE304.out) | exact HB.out)) hb); clear BK304; clear HB; have BK304 := n0_; have HB := n1_; clear n0_ n1_; (try clear hb); (try clear hb2); (try clear hk); (try clear hi); have hcz65_0 : w64.cell? ⟨gb304, 0, none⟩ = some (.int .i64 a0_0) := (blk_cell BK304.out 0).trans rfl; have hcz65_1 : w64.cell? ⟨gb304, 1, none⟩ = some (.int .i64 a0_1) := (blk_cell BK304.out 1).trans rfl; have hcz65_2 : w64.cell? ⟨gb304, 2, none⟩ = some (.slice A0_2 l0_2.length c0_2) := (blk_cell BK304.out 2).trans rfl; have hcz65_3 : w64.cell? ⟨gb304, 3, none⟩ = some (.int .i64 a0_3) := (blk_cell BK304.out 3).trans rfl; have hfz65_0 := blk_frozen BK304.out 0; have hfz65_1 := blk_frozen BK304.out 1; have hfz65_2 := blk_frozen BK304.out 2; have hfz65_3 := blk_frozen BK304.out 3) | (go_at_call 11; (with_reducible refine (sched_Build.calls k a0_0 a0_1 _ _ l0_2 a0_3 t307 t310 _ ?side1 ?side2 A10.out).mono ?_); (case side1 => repeat (first | exact (Kd.C_below HR0_2.out HB.out) | (with_reducible refine Kd.C_alloc ?_ _) | (with_reducible refine Kd.C_drewN ?_ _) | (with_reducible refine Kd.C_drew ?_))); (case side2 => exact HC0_2.out); rintro e w66 ⟨v308, rfl, ho0, hb⟩; have n0_ := Aside0.mk (Kd.R_lower ho0 (below_size (by repeat (first | (with_reducible first | exact HB.out | apply below_alloc | apply pw_below_drewN | apply below_drew1 | refine below_set ?_ GE304.out) | exact HB.out)))); have n1_ := Aside0.mk (blk_below (g := gb304) (o := .cells #[.int .i64 a0_0, .int .i64 a0_1, .slice A0_2 l0_2.length c0_2, .int .i64 a0_3] 24 (0, 0)) (by (with_reducible repeat (first | refine blk_drewN ?_ _ | refine blk_drew ?_ | refine blk_alloc ?_ _)); exact BK304.out) hb); have n2_ := Aside0.mk (below_step (by repeat (first | (with_reducible first | exact HB.out | apply below_alloc | apply pw_below_drewN | apply below_drew1 | refine below_set ?_ GE304.out) | exact HB.out)) hb); clear BK304; clear HB; have HO309 := n0_; have BK304 := n1_; have HB := n2_; clear n0_ n1_ n2_; (try clear hb); (try clear hb2); (try clear hk); (try clear hi); (try clear ho0); obtain ⟨Ao67, co67, eo67⟩ := Kd.R_slice HO309.out; subst eo67))
        repeat (go_quiet (first | ((with_reducible refine gate_dst (N := 1) rfl ?_); refine box_event ?hg (N := 1) ?hd (cs := #[.int .i64 a0_0, .int .i64 a0_1, .slice A0_2 l0_2.length c0_2, .int .i64 a0_3]) (t := 24) ?hr ?_; (case hd => rfl); (case hg => rfl); (case hr => first | (go_simp; done) | (go_simp; rfl)); intro gb304 hg w61 hbox hb; have n0_ := Aside0.mk (below_step (by repeat (first | (with_reducible first | exact HB.out | apply below_alloc | apply pw_below_drewN | apply below_drew1) | exact HB.out)) hb); have n1_ := Aside0.mk (hbox); have n2_ := Aside0.mk ((by rw [hg]; exact (below_size (by repeat (first | (with_reducible first | exact HB.out | apply below_alloc | apply pw_below_drewN | apply below_drew1) | exact HB.out))) : w.heap.size ≤ gb304)); have n3_ := Aside0.mk ((by rw [hg]; exact (below_size (by repeat (first | (with_reducible first | exact HB.out | apply below_alloc | apply pw_below_drewN | apply below_drew1) | exact HB.out))) : w.heap.size ≤ gb304)); clear HB; have HB := n0_; have BK304 := n1_; have GW304 := n2_; have GE304 := n3_; clear n0_ n1_ n2_ n3_; clear hb hbox hg) | (go_at_call 9; (with_reducible refine (lombardlaw08_alive.calls k  true _ A2.out).mono ?_); rintro e w62 ⟨rfl, hb⟩; have n0_ := Aside0.mk (blk_below (g := gb304) (o := .cells #[.int .i64 a0_0, .int .i64 a0_1, .slice A0_2 l0_2.length c0_2, .int .i64 a0_3] 24 (0, 0)) (by (with_reducible repeat (first | refine blk_drewN ?_ _ | refine blk_drew ?_ | refine blk_alloc ?_ _)); exact BK304.out) hb); have n1_ := Aside0.mk (below_step (by repeat (first | (with_reducible first | exact HB.out | apply below_alloc | apply pw_below_drewN | apply below_drew1 | refine below_set ?_ GE304.out) | exact HB.out)) hb); clear BK304; clear HB; have BK304 := n0_; have HB := n1_; clear n0_ n1_; (try clear hb); (try clear hb2); (try clear hk); (try clear hi); have hcz63_0 : w62.cell? ⟨gb304, 0, none⟩ = some (.int .i64 a0_0) := (blk_cell BK304.out 0).trans rfl; have hcz63_1 : w62.cell? ⟨gb304, 1, none⟩ = some (.int .i64 a0_1) := (blk_cell BK304.out 1).trans rfl; have hcz63_2 : w62.cell? ⟨gb304, 2, none⟩ = some (.slice A0_2 l0_2.length c0_2) := (blk_cell BK304.out 2).trans rfl; have hcz63_3 : w62.cell? ⟨gb304, 3, none⟩ = some (.int .i64 a0_3) := (blk_cell BK304.out 3).trans rfl; have hfz63_0 := blk_frozen BK304.out 0; have hfz63_1 := blk_frozen BK304.out 1; have hfz63_2 := blk_frozen BK304.out 2; have hfz63_3 := blk_frozen BK304.out 3) | (go_at_call 10; (with_reducible refine (lombardlaw08_great.calls a0_0 a0_1 _ _ l0_2 a0_3 false _ ?side1 ?side2 A4.out).mono ?_); (case side1 => repeat (first | exact (Kd.C_below HR0_2.out HB.out) | (with_reducible refine Kd.C_alloc ?_ _) | (with_reducible refine Kd.C_drewN ?_ _) | (with_reducible refine Kd.C_drew ?_))); (case side2 => exact HC0_2.out); rintro e w64 ⟨rfl, hb⟩; have n0_ := Aside0.mk (blk_below (g := gb304) (o := .cells #[.int .i64 a0_0, .int .i64 a0_1, .slice A0_2 l0_2.length c0_2, .int .i64 a0_3] 24 (0, 0)) (by (with_reducible repeat (first | refine blk_drewN ?_ _ | refine blk_drew ?_ | refine blk_alloc ?_ _)); exact BK304.out) hb); have n1_ := Aside0.mk (below_step (by repeat (first | (with_reducible first | exact HB.out | apply below_alloc | apply pw_below_drewN | apply below_drew1 | refine below_set ?_ GE304.out) | exact HB.out)) hb); clear BK304; clear HB; have BK304 := n0_; have HB := n1_; clear n0_ n1_; (try clear hb); (try clear hb2); (try clear hk); (try clear hi); have hcz65_0 : w64.cell? ⟨gb304, 0, none⟩ = some (.int .i64 a0_0) := (blk_cell BK304.out 0).trans rfl; have hcz65_1 : w64.cell? ⟨gb304, 1, none⟩ = some (.int .i64 a0_1) := (blk_cell BK304.out 1).trans rfl; have hcz65_2 : w64.cell? ⟨gb304, 2, none⟩ = some (.slice A0_2 l0_2.length c0_2) := (blk_cell BK304.out 2).trans rfl; have hcz65_3 : w64.cell? ⟨gb304, 3, none⟩ = some (.int .i64 a0_3) := (blk_cell BK304.out 3).trans rfl; have hfz65_0 := blk_frozen BK304.out 0; have hfz65_1 := blk_frozen BK304.out 1; have hfz65_2 := blk_frozen BK304.out 2; have hfz65_3 := blk_frozen BK304.out 3) | (go_at_call 11; (with_reducible refine (sched_Build.calls k a0_0 a0_1 _ _ l0_2 a0_3 t307 t310 _ ?side1 ?side2 A10.out).mono ?_); (case side1 => repeat (first | exact (Kd.C_below HR0_2.out HB.out) | (with_reducible refine Kd.C_alloc ?_ _) | (with_reducible refine Kd.C_drewN ?_ _) | (with_reducible refine Kd.C_drew ?_))); (case side2 => exact HC0_2.out); rintro e w66 ⟨v308, rfl, ho0, hb⟩; have n0_ := Aside0.mk (Kd.R_lower ho0 (below_size (by repeat (first | (with_reducible first | exact HB.out | apply below_alloc | apply pw_below_drewN | apply below_drew1 | refine below_set ?_ GE304.out) | exact HB.out)))); have n1_ := Aside0.mk (blk_below (g := gb304) (o := .cells #[.int .i64 a0_0, .int .i64 a0_1, .slice A0_2 l0_2.length c0_2, .int .i64 a0_3] 24 (0, 0)) (by (with_reducible repeat (first | refine blk_drewN ?_ _ | refine blk_drew ?_ | refine blk_alloc ?_ _)); exact BK304.out) hb); have n2_ := Aside0.mk (below_step (by repeat (first | (with_reducible first | exact HB.out | apply below_alloc | apply pw_below_drewN | apply below_drew1 | refine below_set ?_ GE304.out) | exact HB.out)) hb); clear BK304; clear HB; have HO309 := n0_; have BK304 := n1_; have HB := n2_; clear n0_ n1_ n2_; (try clear hb); (try clear hb2); (try clear hk); (try clear hi); (try clear ho0); obtain ⟨Ao67, co67, eo67⟩ := Kd.R_slice HO309.out; subst eo67)); try go_wp2_with (first | ((with_reducible refine gate_dst (N := 1) rfl ?_); refine box_event ?hg (N := 1) ?hd (cs := #[.int .i64 a0_0, .int .i64 a0_1, .slice A0_2 l0_2.length c0_2, .int .i64 a0_3]) (t := 24) ?hr ?_; (case hd => rfl); (case hg => rfl); (case hr => first | (go_simp; done) | (go_simp; rfl)); intro gb304 hg w61 hbox hb; have n0_ := Aside0.mk (below_step (by repeat (first | (with_reducible first | exact HB.out | apply below_alloc | apply pw_below_drewN | apply below_drew1) | exact HB.out)) hb); have n1_ := Aside0.mk (hbox); have n2_ := Aside0.mk ((by rw [hg]; exact (below_size (by repeat (first | (with_reducible first | exact HB.out | apply below_alloc | apply pw_below_drewN | apply below_drew1) | exact HB.out))) : w.heap.size ≤ gb304)); have n3_ := Aside0.mk ((by rw [hg]; exact (below_size (by repeat (first | (with_reducible first | exact HB.out | apply below_alloc | apply pw_below_drewN | apply below_drew1) | exact HB.out))) : w.heap.size ≤ gb304)); clear HB; have HB := n0_; have BK304 := n1_; have GW304 := n2_; have GE304 := n3_; clear n0_ n1_ n2_ n3_; clear hb hbox hg) | (go_at_call 9; (with_reducible refine (lombardlaw08_alive.calls k  true _ A2.out).mono ?_); rintro e w62 ⟨rfl, hb⟩; have n0_ := Aside0.mk (blk_below (g := gb304) (o := .cells #[.int .i64 a0_0, .int .i64 a0_1, .slice A0_2 l0_2.length c0_2, .int .i64 a0_3] 24 (0, 0)) (by (with_reducible repeat (first | refine blk_drewN ?_ _ | refine blk_drew ?_ | refine blk_alloc ?_ _)); exact BK304.out) hb); have n1_ := Aside0.mk (below_step (by repeat (first | (with_reducible first | exact HB.out | apply below_alloc | apply pw_below_drewN | apply below_drew1 | refine below_set ?_ GE304.out) | exact HB.out)) hb); clear BK304; clear HB; have BK304 := n0_; have HB := n1_; clear n0_ n1_; (try clear hb); (try clear hb2); (try clear hk); (try clear hi); have hcz63_0 : w62.cell? ⟨gb304, 0, none⟩ = some (.int .i64 a0_0) := (blk_cell BK304.out 0).trans rfl; have hcz63_1 : w62.cell? ⟨gb304, 1, none⟩ = some (.int .i64 a0_1) := (blk_cell BK304.out 1).trans rfl; have hcz63_2 : w62.cell? ⟨gb304, 2, none⟩ = some (.slice A0_2 l0_2.length c0_2) := (blk_cell BK304.out 2).trans rfl; have hcz63_3 : w62.cell? ⟨gb304, 3, none⟩ = some (.int .i64 a0_3) := (blk_cell BK304.out 3).trans rfl; have hfz63_0 := blk_frozen BK304.out 0; have hfz63_1 := blk_frozen BK304.out 1; have hfz63_2 := blk_frozen BK304.out 2; have hfz63_3 := blk_frozen BK304.out 3) | (go_at_call 10; (with_reducible refine (lombardlaw08_great.calls a0_0 a0_1 _ _ l0_2 a0_3 false _ ?side1 ?side2 A4.out).mono ?_); (case side1 => repeat (first | exact (Kd.C_below HR0_2.out HB.out) | (with_reducible refine Kd.C_alloc ?_ _) | (with_reducible refine Kd.C_drewN ?_ _) | (with_reducible refine Kd.C_drew ?_))); (case side2 => exact HC0_2.out); rintro e w64 ⟨rfl, hb⟩; have n0_ := Aside0.mk (blk_below (g := gb304) (o := .cells #[.int .i64 a0_0, .int .i64 a0_1, .slice A0_2 l0_2.length c0_2, .int .i64 a0_3] 24 (0, 0)) (by (with_reducible repeat (first | refine blk_drewN ?_ _ | refine blk_drew ?_ | refine blk_alloc ?_ _)); exact BK304.out) hb); have n1_ := Aside0.mk (below_step (by repeat (first | (with_reducible first | exact HB.out | apply below_alloc | apply pw_below_drewN | apply below_drew1 | refine below_set ?_ GE304.out) | exact HB.out)) hb); clear BK304; clear HB; have BK304 := n0_; have HB := n1_; clear n0_ n1_; (try clear hb); (try clear hb2); (try clear hk); (try clear hi); have hcz65_0 : w64.cell? ⟨gb304, 0, none⟩ = some (.int .i64 a0_0) := (blk_cell BK304.out 0).trans rfl; have hcz65_1 : w64.cell? ⟨gb304, 1, none⟩ = some (.int .i64 a0_1) := (blk_cell BK304.out 1).trans rfl; have hcz65_2 : w64.cell? ⟨gb304, 2, none⟩ = some (.slice A0_2 l0_2.length c0_2) := (blk_cell BK304.out 2).trans rfl; have hcz65_3 : w64.cell? ⟨gb304, 3, none⟩ = some (.int .i64 a0_3) := (blk_cell BK304.out 3).trans rfl; have hfz65_0 := blk_frozen BK304.out 0; have hfz65_1 := blk_frozen BK304.out 1; have hfz65_2 := blk_frozen BK304.out 2; have hfz65_3 := blk_frozen BK304.out 3) | (go_at_call 11; (with_reducible refine (sched_Build.calls k a0_0 a0_1 _ _ l0_2 a0_3 t307 t310 _ ?side1 ?side2 A10.out).mono ?_); (case side1 => repeat (first | exact (Kd.C_below HR0_2.out HB.out) | (with_reducible refine Kd.C_alloc ?_ _) | (with_reducible refine Kd.C_drewN ?_ _) | (with_reducible refine Kd.C_drew ?_))); (case side2 => exact HC0_2.out); rintro e w66 ⟨v308, rfl, ho0, hb⟩; have n0_ := Aside0.mk (Kd.R_lower ho0 (below_size (by repeat (first | (with_reducible first | exact HB.out | apply below_alloc | apply pw_below_drewN | apply below_drew1 | refine below_set ?_ GE304.out) | exact HB.out)))); have n1_ := Aside0.mk (blk_below (g := gb304) (o := .cells #[.int .i64 a0_0, .int .i64 a0_1, .slice A0_2 l0_2.length c0_2, .int .i64 a0_3] 24 (0, 0)) (by (with_reducible repeat (first | refine blk_drewN ?_ _ | refine blk_drew ?_ | refine blk_alloc ?_ _)); exact BK304.out) hb); have n2_ := Aside0.mk (below_step (by repeat (first | (with_reducible first | exact HB.out | apply below_alloc | apply pw_below_drewN | apply below_drew1 | refine below_set ?_ GE304.out) | exact HB.out)) hb); clear BK304; clear HB; have HO309 := n0_; have BK304 := n1_; have HB := n2_; clear n0_ n1_ n2_; (try clear hb); (try clear hb2); (try clear hk); (try clear hi); (try clear ho0); obtain ⟨Ao67, co67, eo67⟩ := Kd.R_slice HO309.out; subst eo67)))
        go_ret
        exact ⟨by first | rfl | (simp [errW_none, errW_some] <;> rfl) | (simp [*, errW_none, errW_some] <;> rfl), by repeat (first | (with_reducible first | exact HB.out | apply below_alloc | apply pw_below_drewN | apply below_drew1 | refine below_set ?_ GE304.out) | exact HB.out)⟩
  · replace c3 := Bool.eq_false_iff.mpr c3
    subst c3
    have H1 : (some false) = some r := by rw [if_neg (show ¬ (false = true) by decide)] at H; exact H
    clear H
    have H := H1
    clear H1
    obtain rfl := Option.some.inj H
    go_enter Try.func5, Try.ntmps5
    go_wp2_with (first | ((with_reducible refine gate_dst (N := 1) rfl ?_); refine box_event ?hg (N := 1) ?hd (cs := #[.int .i64 a0_0, .int .i64 a0_1, .slice A0_2 l0_2.length c0_2, .int .i64 a0_3]) (t := 24) ?hr ?_; (case hd => rfl); (case hg => rfl); (case hr => first | (go_simp; done) | (go_simp; rfl)); intro gb304 hg w68 hbox hb; have n0_ := Aside0.mk (below_step (by repeat (first | (with_reducible first | exact HB.out | apply below_alloc | apply pw_below_drewN | apply below_drew1) | exact HB.out)) hb); have n1_ := Aside0.mk (hbox); have n2_ := Aside0.mk ((by rw [hg]; exact (below_size (by repeat (first | (with_reducible first | exact HB.out | apply below_alloc | apply pw_below_drewN | apply below_drew1) | exact HB.out))) : w.heap.size ≤ gb304)); have n3_ := Aside0.mk ((by rw [hg]; exact (below_size (by repeat (first | (with_reducible first | exact HB.out | apply below_alloc | apply pw_below_drewN | apply below_drew1) | exact HB.out))) : w.heap.size ≤ gb304)); clear HB; have HB := n0_; have BK304 := n1_; have GW304 := n2_; have GE304 := n3_; clear n0_ n1_ n2_ n3_; clear hb hbox hg) | (go_at_call 9; (with_reducible refine (lombardlaw08_alive.calls k  false _ A2.out).mono ?_); rintro e w69 ⟨rfl, hb⟩; have n0_ := Aside0.mk (blk_below (g := gb304) (o := .cells #[.int .i64 a0_0, .int .i64 a0_1, .slice A0_2 l0_2.length c0_2, .int .i64 a0_3] 24 (0, 0)) (by (with_reducible repeat (first | refine blk_drewN ?_ _ | refine blk_drew ?_ | refine blk_alloc ?_ _)); exact BK304.out) hb); have n1_ := Aside0.mk (below_step (by repeat (first | (with_reducible first | exact HB.out | apply below_alloc | apply pw_below_drewN | apply below_drew1 | refine below_set ?_ GE304.out) | exact HB.out)) hb); clear BK304; clear HB; have BK304 := n0_; have HB := n1_; clear n0_ n1_; (try clear hb); (try clear hb2); (try clear hk); (try clear hi)))
    repeat (go_quiet (first | ((with_reducible refine gate_dst (N := 1) rfl ?_); refine box_event ?hg (N := 1) ?hd (cs := #[.int .i64 a0_0, .int .i64 a0_1, .slice A0_2 l0_2.length c0_2, .int .i64 a0_3]) (t := 24) ?hr ?_; (case hd => rfl); (case hg => rfl); (case hr => first | (go_simp; done) | (go_simp; rfl)); intro gb304 hg w68 hbox hb; have n0_ := Aside0.mk (below_step (by repeat (first | (with_reducible first | exact HB.out | apply below_alloc | apply pw_below_drewN | apply below_drew1) | exact HB.out)) hb); have n1_ := Aside0.mk (hbox); have n2_ := Aside0.mk ((by rw [hg]; exact (below_size (by repeat (first | (with_reducible first | exact HB.out | apply below_alloc | apply pw_below_drewN | apply below_drew1) | exact HB.out))) : w.heap.size ≤ gb304)); have n3_ := Aside0.mk ((by rw [hg]; exact (below_size (by repeat (first | (with_reducible first | exact HB.out | apply below_alloc | apply pw_below_drewN | apply below_drew1) | exact HB.out))) : w.heap.size ≤ gb304)); clear HB; have HB := n0_; have BK304 := n1_; have GW304 := n2_; have GE304 := n3_; clear n0_ n1_ n2_ n3_; clear hb hbox hg) | (go_at_call 9; (with_reducible refine (lombardlaw08_alive.calls k  false _ A2.out).mono ?_); rintro e w69 ⟨rfl, hb⟩; have n0_ := Aside0.mk (blk_below (g := gb304) (o := .cells #[.int .i64 a0_0, .int .i64 a0_1, .slice A0_2 l0_2.length c0_2, .int .i64 a0_3] 24 (0, 0)) (by (with_reducible repeat (first | refine blk_drewN ?_ _ | refine blk_drew ?_ | refine blk_alloc ?_ _)); exact BK304.out) hb); have n1_ := Aside0.mk (below_step (by repeat (first | (with_reducible first | exact HB.out | apply below_alloc | apply pw_below_drewN | apply below_drew1 | refine below_set ?_ GE304.out) | exact HB.out)) hb); clear BK304; clear HB; have BK304 := n0_; have HB := n1_; clear n0_ n1_; (try clear hb); (try clear hb2); (try clear hk); (try clear hi))); try go_wp2_with (first | ((with_reducible refine gate_dst (N := 1) rfl ?_); refine box_event ?hg (N := 1) ?hd (cs := #[.int .i64 a0_0, .int .i64 a0_1, .slice A0_2 l0_2.length c0_2, .int .i64 a0_3]) (t := 24) ?hr ?_; (case hd => rfl); (case hg => rfl); (case hr => first | (go_simp; done) | (go_simp; rfl)); intro gb304 hg w68 hbox hb; have n0_ := Aside0.mk (below_step (by repeat (first | (with_reducible first | exact HB.out | apply below_alloc | apply pw_below_drewN | apply below_drew1) | exact HB.out)) hb); have n1_ := Aside0.mk (hbox); have n2_ := Aside0.mk ((by rw [hg]; exact (below_size (by repeat (first | (with_reducible first | exact HB.out | apply below_alloc | apply pw_below_drewN | apply below_drew1) | exact HB.out))) : w.heap.size ≤ gb304)); have n3_ := Aside0.mk ((by rw [hg]; exact (below_size (by repeat (first | (with_reducible first | exact HB.out | apply below_alloc | apply pw_below_drewN | apply below_drew1) | exact HB.out))) : w.heap.size ≤ gb304)); clear HB; have HB := n0_; have BK304 := n1_; have GW304 := n2_; have GE304 := n3_; clear n0_ n1_ n2_ n3_; clear hb hbox hg) | (go_at_call 9; (with_reducible refine (lombardlaw08_alive.calls k  false _ A2.out).mono ?_); rintro e w69 ⟨rfl, hb⟩; have n0_ := Aside0.mk (blk_below (g := gb304) (o := .cells #[.int .i64 a0_0, .int .i64 a0_1, .slice A0_2 l0_2.length c0_2, .int .i64 a0_3] 24 (0, 0)) (by (with_reducible repeat (first | refine blk_drewN ?_ _ | refine blk_drew ?_ | refine blk_alloc ?_ _)); exact BK304.out) hb); have n1_ := Aside0.mk (below_step (by repeat (first | (with_reducible first | exact HB.out | apply below_alloc | apply pw_below_drewN | apply below_drew1 | refine below_set ?_ GE304.out) | exact HB.out)) hb); clear BK304; clear HB; have BK304 := n0_; have HB := n1_; clear n0_ n1_; (try clear hb); (try clear hb2); (try clear hk); (try clear hi))))
    go_ret
    exact ⟨by first | rfl | (simp [errW_none, errW_some] <;> rfl) | (simp [*, errW_none, errW_some] <;> rfl), by repeat (first | (with_reducible first | exact HB.out | apply below_alloc | apply pw_below_drewN | apply below_drew1 | refine below_set ?_ GE304.out) | exact HB.out)⟩

/-- THE PURE STATEMENT of lombardlaw08_SchedWhole. -/
def lombardlaw08_SchedWhole.Pure : Prop := ∀ (a0_0 : Int) (a0_1 : Int) (l0_2 : List Int) (a0_3 : Int), (Lit.int .i64 a0_0).wf = true → (Lit.int .i64 a0_1).wf = true → (l0_2.length ≤ maxLen ∧ ∀ y_ ∈ l0_2, (Lit.int .i64 y_).wf = true) → (Lit.int .i64 a0_3).wf = true → ∃ k, lombardlaw08_SchedWhole.f k a0_0 a0_1 l0_2 a0_3 = some true
theorem lombardlaw08_SchedWhole.walk (P : lombardlaw08_SchedWhole.Pure) (a0_0 : Int) (a0_1 : Int) (A0_2 : Option Addr) (c0_2 : Nat) (l0_2 : List Int) (a0_3 : Int) (w : World) (hr0_2 : Kd.C (Kd.int .i64) w A0_2 l0_2.length l0_2) (hc0_2 : l0_2.length ≤ c0_2) (hg0_0 : (Lit.int .i64 a0_0).wf = true) (hg0_1 : (Lit.int .i64 a0_1).wf = true) (hg0_2 : (l0_2.length ≤ maxLen ∧ ∀ y_ ∈ l0_2, (Lit.int .i64 y_).wf = true)) (hg0_3 : (Lit.int .i64 a0_3).wf = true) :
    Calls Try.prog 5 #[.agg #[.int .i64 a0_0, .int .i64 a0_1, .slice A0_2 l0_2.length c0_2, .int .i64 a0_3]] w fun e w' => e = .returned (.bool true) ∧ Below w.heap.size w w' := by
  obtain ⟨k, h⟩ := P a0_0 a0_1 l0_2 a0_3 hg0_0 hg0_1 hg0_2 hg0_3
  refine (lombardlaw08_SchedWhole.calls k a0_0 a0_1 A0_2 c0_2 l0_2 a0_3 true w hr0_2 hc0_2 h).mono ?_
  rintro e w' ⟨rfl, hd⟩
  exact ⟨rfl, hd⟩

end Go.Proofs.Ytchpeobenlnemaa.S
end

section
namespace Go.Proofs.Ytchpeobenlnemaa.S
open Go.RowKit Go.Proofs.YtchpeobenlnemaaW.PrintWords Go.Proofs.YtchpeobenlnemaaW.PrintLast Go.Proofs.YtchpeobenlnemaaW.PrintMore
attribute [local go_sem] max2_int min2_int max_two min_two max_three min_three max_four min_four   -- for this text's walks alone
attribute [local go_sem] Go.Proofs.Ytchpeobenlnemaa.XWalk.cell2
set_option linter.unusedVariables false
set_option linter.unusedSimpArgs false

/-! ### lombardref02_size: function 68 -/
-- IMPORT BigMath
/-- A row of 260 bits, as a value. -/
def B.bit (N i : Nat) : Int := ((Go.Proofs.Ytchpeobenlnemaa.BigMath.bitN N i : Nat) : Int)
def B.cells (N : Nat) : Array Value := Array.ofFn (n := 260) fun i => .int .u8 (B.bit N i.val)
theorem B.size (N : Nat) : (B.cells N).size = 260 := by unfold B.cells; exact Array.size_ofFn
theorem B.get (N i : Nat) (h : i < 260) : (B.cells N)[i]? = some (.int .u8 (B.bit N i)) := by
  unfold B.cells
  rw [Array.getElem?_ofFn, dif_pos h]
theorem B.out (N i : Nat) (h : ¬i < 260) : (B.cells N)[i]? = none := Array.getElem?_eq_none (by rw [B.size]; omega)
/-- rows that are alike bit by bit -/
theorem B.ext (cs : Array Value) (N : Nat) (hs : cs.size = 260) (h : ∀ i, i < 260 → cs[i]? = some (.int .u8 (B.bit N i))) : cs = B.cells N := by
  apply Array.ext_getElem?
  intro i
  by_cases c : i < 260
  · rw [h i c, B.get N i c]
  · rw [B.out N i c]
    exact Array.getElem?_eq_none (by omega)
set_option maxRecDepth 100000 in
theorem B.zero : Try.zeroCells91 = B.cells 0 := by
  have e : Try.zeroCells91 = Array.replicate 260 (.int .u8 0) := by first | rfl | kernel_rfl
  rw [e]
  refine B.ext _ _ (by simp) fun i h => ?_
  rw [Array.getElem?_replicate, if_pos h]
  unfold B.bit
  rw [Go.Proofs.Ytchpeobenlnemaa.BigMath.bitN_zero]
  rfl
/-- one bit written -/
theorem B.put (S i : Nat) (v : Int) (h : i < 260) (hv : v = B.bit S i) : (B.cells (S % 2 ^ i)).setIfInBounds i (.int .u8 v) = B.cells (S % 2 ^ (i + 1)) := by
  refine B.ext _ _ (by rw [Array.size_setIfInBounds, B.size]) fun j hj => ?_
  rw [Array.getElem?_setIfInBounds]
  by_cases c : i = j
  · subst c
    rw [if_pos rfl, if_pos (by rw [B.size]; exact h), hv]
    unfold B.bit
    rw [Go.Proofs.Ytchpeobenlnemaa.BigMath.bitN_mod, if_pos (by omega)]
  · rw [if_neg c, B.get _ _ hj]
    unfold B.bit
    rw [Go.Proofs.Ytchpeobenlnemaa.BigMath.bitN_mod, Go.Proofs.Ytchpeobenlnemaa.BigMath.bitN_mod]
    by_cases d : j < i
    · rw [if_pos d, if_pos (by omega)]
    · rw [if_neg d, if_neg (by omega)]
theorem B.plain (N : Nat) : (B.cells N).all (·.oneCell') = true := by
  rw [Array.all_eq_true]
  intro i hi
  simp [B.cells, Value.oneCell']
theorem B.ix (g i : Nat) (h : i < 260) (W : World) : (Instr.indexAt 91 (.pointer (some ⟨g, 0, none⟩)) (.int .i64 (i : Int))).run Try.prog W = .ok (.pointer (some ⟨g, i, none⟩)) W := by
  rw [run_indexAt_array W 91 _ _ _ (by kernel_rfl)]
  have e : Try.prog.arrayLen 91 = 260 := by kernel_rfl
  rw [e, if_pos (by omega)]
  have z : Try.prog.elem 91 = 5 := by kernel_rfl
  rw [z]
  have s : ∀ W, (sizeOf 5).run Try.prog W = .ok 1 W := fun W => by kernel_rfl
  rw [s]
  simp [add_plain]
/-- a block that holds a row's bits -/
def B.Has (w : World) (g N : Nat) : Prop := w.heap[g]? = some (.cells (B.cells N) 91 (0, 0))
theorem B.Has.cell {w : World} {g N : Nat} (h : B.Has w g N) {i : Nat} (hi : i < 260) : w.cell? ⟨g, i, none⟩ = some (.int .u8 (B.bit N i)) := by
  rw [cell_of_row w g i _ _ _ h, B.get N i hi]
theorem B.Has.drew {w : World} {g N : Nat} (h : B.Has w g N) (n : Nat) : B.Has (w.drewN n) g N := h
theorem B.Has.set {w : World} {g N : Nat} (h : B.Has w g N) (p : Addr) (u : Value) (hp : g ≠ p.block) : B.Has (w.setCell p u) g N := blk_far h hp u
theorem B.Has.alloc {w : World} {g N : Nat} (h : B.Has w g N) (o : Obj) : B.Has (w.alloc o) g N := blk_alloc h o
theorem B.Has.below {w w1 : World} {g N : Nat} (h : B.Has w g N) (hb : Below w.heap.size w w1) : B.Has w1 g N := blk_below h hb
theorem B.Has.new (w : World) (N : Nat) : B.Has (w.alloc (.cells (B.cells N) 91)) w.heap.size N := blk_new w _
theorem B.Has.row {w : World} {g N : Nat} (h : B.Has w g N) (M : Nat) : B.Has (w.setRow g (B.cells M)) g M := setRow_heap w g _ _ _ _ h
theorem B.info : (Try.prog.info? 91).map (·.size) = some 260 := by kernel_rfl
theorem B.under : Try.prog.underlying 91 = some (.array 260 5) := by kernel_rfl
theorem B.Has.put {w : World} {g S i : Nat} {v : Int} (h : B.Has w g (S % 2 ^ i)) (hi : i < 260) (hv : v = B.bit S i) : B.Has (w.setCell ⟨g, i, none⟩ (.int .u8 v)) g (S % 2 ^ (i + 1)) := by
  have := blk_set h i (.int .u8 v)
  rw [B.put S i v hi hv] at this
  exact this
theorem B.infoN (N : Nat) : (Try.prog.info? 91).map (·.size) = some (B.cells N).size := by rw [B.size]; exact B.info
theorem B.and1 {x : Int} (h0 : 0 ≤ x) (h1 : x < 256) : bits .and .u8 x 1 = x % 2 := bits_mask .u8 8 (by decide) wraps_u8 1 (by decide) x h0 h1
theorem B.w1 {i : Int} (h0 : 0 ≤ i) (h1 : i ≤ 1000) : wrap64 (i + 1) = i + 1 := by unfold wrap64; omega
theorem B.w0 {i : Int} (h0 : 0 ≤ i) (h1 : i ≤ 1000) : wrap64 (i - 1) = i - 1 := by unfold wrap64; omega
def lombardref02_size.ord (a b : Nat) : Int := if a < b then -1 else if b < a then 1 else 0
end Go.Proofs.Ytchpeobenlnemaa.S
end

section
namespace Go.Proofs.Ytchpeobenlnemaa.S
open Go.RowKit Go.Proofs.YtchpeobenlnemaaW.PrintWords Go.Proofs.YtchpeobenlnemaaW.PrintLast Go.Proofs.YtchpeobenlnemaaW.PrintMore
attribute [local go_sem] max2_int min2_int max_two min_two max_three min_three max_four min_four   -- for this text's walks alone
attribute [local go_sem] Go.Proofs.Ytchpeobenlnemaa.XWalk.cell2
set_option linter.unusedVariables false
set_option linter.unusedSimpArgs false

/-! ### lombardref02_big: function 65 -/
-- IMPORT BigMath
/-- A sign and a row of bits, as a value. -/
def B.big (less : Bool) (N : Nat) : Array Value := #[.bool less] ++ B.cells N
theorem B.big_get (less : Bool) (N i : Nat) (h : i < 260) : (B.big less N)[1 + i]? = some (.int .u8 (B.bit N i)) := by
  unfold B.big
  rw [Array.getElem?_append_right (by show 1 ≤ 1 + i; omega)]
  show (B.cells N)[1 + i - 1]? = _
  rw [show 1 + i - 1 = i by omega, B.get N i h]
def B.HasB (w : World) (g : Nat) (less : Bool) (N : Nat) : Prop := w.heap[g]? = some (.cells (B.big less N) 93 (0, 0))
theorem B.HasB.cell {w : World} {g N : Nat} {less : Bool} (h : B.HasB w g less N) {i : Nat} (hi : i < 260) : w.cell? ⟨g, 1 + i, none⟩ = some (.int .u8 (B.bit N i)) := by
  rw [cell_of_row w g (1 + i) _ _ _ h, B.big_get _ _ _ hi]
theorem B.HasB.drew {w : World} {g N : Nat} {less : Bool} (h : B.HasB w g less N) (n : Nat) : B.HasB (w.drewN n) g less N := h
theorem B.HasB.set {w : World} {g N : Nat} {less : Bool} (h : B.HasB w g less N) (p : Addr) (u : Value) (hp : g ≠ p.block) : B.HasB (w.setCell p u) g less N := blk_far h hp u
theorem B.HasB.alloc {w : World} {g N : Nat} {less : Bool} (h : B.HasB w g less N) (o : Obj) : B.HasB (w.alloc o) g less N := blk_alloc h o
theorem B.HasB.below {w w1 : World} {g N : Nat} {less : Bool} (h : B.HasB w g less N) (hb : Below w.heap.size w w1) : B.HasB w1 g less N := blk_below h hb
theorem B.HasB.row {w : World} {g N : Nat} {less : Bool} (h : B.HasB w g less N) (l2 : Bool) (M : Nat) : B.HasB (w.setRow g (B.big l2 M)) g l2 M := setRow_heap w g _ _ _ _ h
theorem B.HasB.new (w : World) (less : Bool) (N : Nat) : B.HasB (w.alloc (.cells (B.big less N) 93)) w.heap.size less N := blk_new w _
theorem B.big_put (less : Bool) (N i : Nat) (u : Value) : (B.big less N).setIfInBounds (1 + i) u = #[.bool less] ++ (B.cells N).setIfInBounds i u := by
  unfold B.big
  rw [Array.setIfInBounds_append_right (by simp)]
  congr 2
  simp
theorem B.HasB.put {w : World} {g S i : Nat} {less : Bool} {v : Int} (h : B.HasB w g less (S % 2 ^ i)) (hi : i < 260) (hv : v = B.bit S i) : B.HasB (w.setCell ⟨g, 1 + i, none⟩ (.int .u8 v)) g less (S % 2 ^ (i + 1)) := by
  have := blk_set h (1 + i) (.int .u8 v)
  rw [B.big_put, B.put S i v hi hv] at this
  exact this
theorem B.big_less (l l2 : Bool) (N : Nat) : (B.big l N).setIfInBounds 0 (.bool l2) = B.big l2 N := by
  unfold B.big
  rw [Array.setIfInBounds_append_left (by simp)]
  rfl
theorem B.HasB.less {w : World} {g N : Nat} {less : Bool} (h : B.HasB w g less N) (l2 : Bool) : B.HasB (w.setCell ⟨g, 0, none⟩ (.bool l2)) g l2 N := by
  have := blk_set h 0 (.bool l2)
  rw [B.big_less] at this
  exact this
/-- two words as one number, the sign within -/
def B.two (hi lo : Int) : Nat := ((hi % 18446744073709551616) * 18446744073709551616 + lo).toNat
def B.less (hi : Int) : Bool := decide (hi < 0)
def B.abs (hi lo : Int) : Nat := if hi < 0 then 2 ^ 128 - B.two hi lo else B.two hi lo
end Go.Proofs.Ytchpeobenlnemaa.S
end

section
namespace Go.Proofs.Ytchpeobenlnemaa.S
open Go.RowKit Go.Proofs.YtchpeobenlnemaaW.PrintWords Go.Proofs.YtchpeobenlnemaaW.PrintLast Go.Proofs.YtchpeobenlnemaaW.PrintMore
attribute [local go_sem] max2_int min2_int max_two min_two max_three min_three max_four min_four   -- for this text's walks alone
attribute [local go_sem] Go.Proofs.Ytchpeobenlnemaa.XWalk.cell2
set_option linter.unusedVariables false
set_option linter.unusedSimpArgs false

/-! ### lombardref02_minus: function 72 -/
end Go.Proofs.Ytchpeobenlnemaa.S
end

section
namespace Go.Proofs.Ytchpeobenlnemaa.S
open Go.RowKit Go.Proofs.YtchpeobenlnemaaW.PrintWords Go.Proofs.YtchpeobenlnemaaW.PrintLast Go.Proofs.YtchpeobenlnemaaW.PrintMore
attribute [local go_sem] max2_int min2_int max_two min_two max_three min_three max_four min_four   -- for this text's walks alone
attribute [local go_sem] Go.Proofs.Ytchpeobenlnemaa.XWalk.cell2
set_option linter.unusedVariables false
set_option linter.unusedSimpArgs false

/-! ### lombardref02_quo: function 67 -/
-- IMPORT BigMath
/-- bits that are being moved one up: those above k are moved -/
def B.sh (R k : Nat) : Array Value := Array.ofFn (n := 260) fun j => .int .u8 (if k < j.val then B.bit R (j.val - 1) else B.bit R j.val)
def B.HasC (w : World) (g : Nat) (cs : Array Value) : Prop := w.heap[g]? = some (.cells cs 91 (0, 0))
theorem B.HasC.cell {w : World} {g : Nat} {cs : Array Value} (h : B.HasC w g cs) (i : Nat) : w.cell? ⟨g, i, none⟩ = cs[i]? := cell_of_row w g i _ _ _ h
theorem B.HasC.put {w : World} {g : Nat} {cs : Array Value} (h : B.HasC w g cs) (i : Nat) (u : Value) : B.HasC (w.setCell ⟨g, i, none⟩ u) g (cs.setIfInBounds i u) := blk_set h i u
theorem B.load {o : Oper} {ρ : Operand → Value} {W : World} {g N : Nat} (x : Operand) (ho : o.op = .load 91 x) (hx : ρ x = .pointer (some ⟨g, 0, none⟩)) (h : B.HasC W g (B.cells N)) : (execOp ρ o).run Try.prog W = .ok (.value (.agg (B.cells N))) W := by
  have r := run_loadVar_row (P := Try.prog) W g 91 91 (B.cells N) (0, 0) _ h B.under rfl (B.infoN _)
  unfold execOp
  simp only [ho, hx, Instr.loadAt, Instr.sureAddr, Sem.run_bind, Sem.run_pure, Result.andThen_ok, r]
theorem B.HasC.row {w : World} {g : Nat} {cs : Array Value} (h : B.HasC w g cs) (cs' : Array Value) : B.HasC (w.setRow g cs') g cs' := setRow_heap w g _ _ _ _ h
/-- a bit of the quotient -/
theorem B.Has.one {w : World} {g Q i : Nat} (h : B.Has w g (Q / 2 ^ (i + 1) * 2 ^ (i + 1))) (hi : i < 260) (hq : Go.Proofs.Ytchpeobenlnemaa.BigMath.bitN Q i = 1) : B.Has (w.setCell ⟨g, i, none⟩ (.int .u8 1)) g (Q / 2 ^ i * 2 ^ i) := by
  have := blk_set h i (.int .u8 1)
  have e : (B.cells (Q / 2 ^ (i + 1) * 2 ^ (i + 1))).setIfInBounds i (.int .u8 1) = B.cells (Q / 2 ^ i * 2 ^ i) := by
    refine B.ext _ _ (by rw [Array.size_setIfInBounds, B.size]) fun j hj => ?_
    rw [Array.getElem?_setIfInBounds]
    by_cases c : i = j
    · subst c
      rw [if_pos rfl, if_pos (by rw [B.size]; exact hi)]
      unfold B.bit
      rw [Go.Proofs.Ytchpeobenlnemaa.BigMath.bitN_high, if_pos (by omega), hq]
      rfl
    · rw [if_neg c, B.get _ _ hj]
      unfold B.bit
      rw [Go.Proofs.Ytchpeobenlnemaa.BigMath.bitN_high, Go.Proofs.Ytchpeobenlnemaa.BigMath.bitN_high]
      by_cases d : i + 1 ≤ j
      · rw [if_pos d, if_pos (by omega)]
      · rw [if_neg d, if_neg (by omega)]
  rw [e] at this
  exact this
end Go.Proofs.Ytchpeobenlnemaa.S
end
