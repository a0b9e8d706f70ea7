/- Texts of the statement SchedRatesSaid, laid together. Conditions: none beyond those that each theorem names. -/
import Derived.Test.YtchpeobenlnemaaSx0
import Derived.Test.YtchpeobenlnemaaSxSchedLevel
import Derived.Test.YtchpeobenlnemaaMSchedRates3
section
namespace Go.Proofs.Ytchpeobenlnemaa.S
open Go.RowKit Go.Proofs.YtchpeobenlnemaaW.PrintWords Go.Proofs.YtchpeobenlnemaaW.PrintLast Go.Proofs.YtchpeobenlnemaaW.PrintMore
attribute [local go_sem] max2_int min2_int max_two min_two max_three min_three max_four min_four   -- for this text's walks alone
attribute [local go_sem] Go.Proofs.Ytchpeobenlnemaa.XWalk.cell2
set_option linter.unusedVariables false
set_option linter.unusedSimpArgs false

theorem eqA43 (d : Nat) (w : World) (x0 y0 : Int) (x1 y1 : Int) (x2 y2 : Int) (x3 y3 : Int) :
    (Op.equalIn (d + 2) 43 (.agg #[.int .i64 x0, .int .i64 x1, .int .i64 x2, .int .i64 x3]) (.agg #[.int .i64 y0, .int .i64 y1, .int .i64 y2, .int .i64 y3])).run Try.prog w = .ok (x0 == y0 && (x1 == y1 && (x2 == y2 && (x3 == y3)))) w := by
  refine eqA_of Try.underlying43 (by kernel_rfl) ?_
  refine eqf_cons (by rfl) (by go_simp; rfl) (by go_simp; rfl) (by go_simp) ?_
  refine eqf_cons (by rfl) (by go_simp; rfl) (by go_simp; rfl) (by go_simp) ?_
  refine eqf_cons (by rfl) (by go_simp; rfl) (by go_simp; rfl) (by go_simp) ?_
  exact eqf_last (by rfl) (by go_simp; rfl) (by go_simp; rfl) (by go_simp)
end Go.Proofs.Ytchpeobenlnemaa.S
end

section
namespace Go.Proofs.Ytchpeobenlnemaa.S
open Go.RowKit Go.Proofs.YtchpeobenlnemaaW.PrintWords Go.Proofs.YtchpeobenlnemaaW.PrintLast Go.Proofs.YtchpeobenlnemaaW.PrintMore
attribute [local go_sem] max2_int min2_int max_two min_two max_three min_three max_four min_four   -- for this text's walks alone
attribute [local go_sem] Go.Proofs.Ytchpeobenlnemaa.XWalk.cell2
set_option linter.unusedVariables false
set_option linter.unusedSimpArgs false

attribute [local go_sem high] eqA43
/-! ### lombardlaw08_alive: function 9 -/
def lombardlaw08_alive.f (k : Nat)  : Option (Bool) := (sched_Build.f k 2 1000 (([10000000000] : List Int)) 4).bind fun bt197 => ((sched_Level.f k 1000 10000000000 4).bind fun bt201 => (if bt197.2 = 0 then (if (bt197.1.length : Int) = 4 then (if 1 < (bt197.1.length : Int) then (if (((rd_T43 bt197.1 1).f0) == 8 && (((rd_T43 bt197.1 1).f1) == 258 && (((rd_T43 bt197.1 1).f2) == 250 && (((rd_T43 bt197.1 1).f3) == 500)))) = true then (if 3 < (bt197.1.length : Int) then (if ((rd_T43 bt197.1 3).f1) = 252 then (if bt201.1 = 257 then (some (bt201.2 == 0)) else (some false)) else (some false)) else (none)) else (some false)) else (none)) else (some false)) else (some false)))
set_option maxHeartbeats 8000000 in
set_option maxRecDepth 100000 in
theorem lombardlaw08_alive.calls (k : Nat)  (r : Bool) (w : World) (h : lombardlaw08_alive.f k  = some r) :
    Calls Try.prog 9 #[] w fun e w' => e = .returned (.bool r) ∧ Below w.heap.size w w' := by
  have hu27 := Try.underlying27
  have hu43 := Try.underlying43
  have HB := Aside0.mk (Below.refl w.heap.size w)
  have H : ((sched_Build.f k 2 1000 (([10000000000] : List Int)) 4).bind fun bt197 => ((sched_Level.f k 1000 10000000000 4).bind fun bt201 => (if bt197.2 = 0 then (if (bt197.1.length : Int) = 4 then (if 1 < (bt197.1.length : Int) then (if (((rd_T43 bt197.1 1).f0) == 8 && (((rd_T43 bt197.1 1).f1) == 258 && (((rd_T43 bt197.1 1).f2) == 250 && (((rd_T43 bt197.1 1).f3) == 500)))) = true then (if 3 < (bt197.1.length : Int) then (if ((rd_T43 bt197.1 3).f1) = 252 then (if bt201.1 = 257 then (some (bt201.2 == 0)) else (some false)) else (some false)) else (none)) else (some false)) else (none)) else (some false)) else (some false)))) = some r := h
  clear h
  obtain ⟨y194, hy194⟩ : ∃ y_ : List Int, y_ = (([10000000000] : List Int)) := ⟨_, rfl⟩
  replace H : ((sched_Build.f k 2 1000 y194 4).bind fun bt197 => ((sched_Level.f k 1000 10000000000 4).bind fun bt201 => (if bt197.2 = 0 then (if (bt197.1.length : Int) = 4 then (if 1 < (bt197.1.length : Int) then (if (((rd_T43 bt197.1 1).f0) == 8 && (((rd_T43 bt197.1 1).f1) == 258 && (((rd_T43 bt197.1 1).f2) == 250 && (((rd_T43 bt197.1 1).f3) == 500)))) = true then (if 3 < (bt197.1.length : Int) then (if ((rd_T43 bt197.1 3).f1) = 252 then (if bt201.1 = 257 then (some (bt201.2 == 0)) else (some false)) else (some false)) else (none)) else (some false)) else (none)) else (some false)) else (some false)))) = some r := by first | (rw [hy194]; with_reducible exact H) | (have H2_ := (Option.bind_some _ _).symm.trans H; rw [hy194]; with_reducible exact H2_) | (have H2_ := (Option.bind_some _ _).symm.trans H; with_reducible exact H2_) | with_reducible exact H | (rw [hy194]; exact H) | exact H
  have Ny194 := Aside0.mk hy194
  clear hy194
  replace H := Option.bind_eq_some_iff.mp H
  obtain ⟨⟨t197, t200⟩, A10, H⟩ := H
  replace H : ((sched_Level.f k 1000 10000000000 4).bind fun bt201 => (if t200 = 0 then (if (t197.length : Int) = 4 then (if 1 < (t197.length : Int) then (if (((rd_T43 t197 1).f0) == 8 && (((rd_T43 t197 1).f1) == 258 && (((rd_T43 t197 1).f2) == 250 && (((rd_T43 t197 1).f3) == 500)))) = true then (if 3 < (t197.length : Int) then (if ((rd_T43 t197 3).f1) = 252 then (if bt201.1 = 257 then (some (bt201.2 == 0)) else (some false)) else (some false)) else (none)) else (some false)) else (none)) else (some false)) else (some false))) = some r := H
  have A1 := Aside0.mk A10
  clear A10
  replace H := Option.bind_eq_some_iff.mp H
  obtain ⟨⟨t201, t202⟩, A20, H⟩ := H
  replace H : (if t200 = 0 then (if (t197.length : Int) = 4 then (if 1 < (t197.length : Int) then (if (((rd_T43 t197 1).f0) == 8 && (((rd_T43 t197 1).f1) == 258 && (((rd_T43 t197 1).f2) == 250 && (((rd_T43 t197 1).f3) == 500)))) = true then (if 3 < (t197.length : Int) then (if ((rd_T43 t197 3).f1) = 252 then (if t201 = 257 then (some (t202 == 0)) else (some false)) else (some false)) else (none)) else (some false)) else (none)) else (some false)) else (some false)) = some r := H
  have A2 := Aside0.mk A20
  clear A20
  have HC3 := Aside0.mk H
  clear H
  go_enter Try.func9, Try.ntmps9
  go_upto_region 3 with (first | ((with_reducible refine gate_dst (N := 6) rfl ?_); (try (refine gate_guard (by rfl) ?_; dsimp only)); refine Kd.R_lit (Kd.int .i64) _ 2 ?hg (N := 6) ?hd (xs := ([10000000000] : List Int)) (inner := [.int .i64 10000000000]) (ok := fun _ => True) (okp := fun _ => True) ?hr ?hp (fun _ hk => hk) trivial (Below.refl _ _) (Nat.le_refl _) (by simp) ?_; (case hd => rfl); (case hg => rfl); (case hr => first | (go_simp; done) | (go_simp; rfl)); (case hp => exact (Reps.one (show Kd.M (Kd.int .i64) _ _ _ 10000000000 [.int .i64 10000000000] from rfl) (Reps.none _ _))); intro v195 w4 ho5 hb hg_ hnew_; clear hg_ hnew_; (first | rw [← Ny194.out] at ho5 | (simp only [Int.reduceToNat] at ho5; rw [← Ny194.out] at ho5)); have n0_ := Aside0.mk (Kd.R_lower ho5 (below_size (by repeat (first | (with_reducible first | exact HB.out | apply below_alloc | apply pw_below_drewN | apply below_drew1) | exact HB.out)))); have n1_ := Aside0.mk (below_step (by repeat (first | (with_reducible first | exact HB.out | apply below_alloc | apply pw_below_drewN | apply below_drew1) | exact HB.out)) hb); clear HB; have HO196 := n0_; have HB := n1_; clear n0_ n1_; clear hb ho5; obtain ⟨Ao6, co6, eo6⟩ := Kd.R_slice HO196.out; subst eo6) | ((with_reducible refine gate_callee (f := 11) rfl ?_); refine goesL_ (some 8) rfl rfl Try.func11 (by kernel_rfl) rfl #[.agg #[.int .i64 2, .int .i64 1000, .slice Ao6 y194.length co6, .int .i64 4]] rfl (by (try simp only [List.map_toArray, List.map_cons, List.map_nil]); first | done | rfl | (simp only [List.length_drop, List.length_take]; rfl)) ?_; (with_reducible refine (sched_Build.calls k 2 1000 _ _ y194 4 t197 t200 _ ?side1 ?side2 A1.out).mono ?_); (case side1 => repeat (first | exact (Kd.R_reads' HO196.out).2.2 | (with_reducible refine Kd.C_alloc ?_ _) | (with_reducible refine Kd.C_drewN ?_ _) | (with_reducible refine Kd.C_drew ?_))); (case side2 => exact (Kd.R_reads' HO196.out).2.1); rintro e w7 ⟨v198, rfl, ho0, hb⟩; refine ⟨_, rfl, ?_⟩; have n0_ := Aside0.mk (Kd.R_below (by (with_reducible repeat (first | apply Kd.R_alloc | apply Kd.R_drewN | apply Kd.R_drew)); exact HO196.out) hb); have n1_ := Aside0.mk (Kd.R_lower ho0 (below_size (by repeat (first | (with_reducible first | exact HB.out | apply below_alloc | apply pw_below_drewN | apply below_drew1) | exact HB.out)))); have n2_ := Aside0.mk (below_step (by repeat (first | (with_reducible first | exact HB.out | apply below_alloc | apply pw_below_drewN | apply below_drew1) | exact HB.out)) hb); clear HO196; clear HB; have HO196 := n0_; have HO199 := n1_; have HB := n2_; clear n0_ n1_ n2_; (try clear hb); (try clear hb2); (try clear hk); (try clear hi); (try clear ho0)) | ((with_reducible refine gate_callee (f := 17) rfl ?_); refine goesL_ (some 12) rfl rfl Try.func17 (by kernel_rfl) rfl #[.int .i64 1000, .int .i64 10000000000, .int .i64 4] rfl (by (try simp only [List.map_toArray, List.map_cons, List.map_nil]); first | done | rfl | (simp only [List.length_drop, List.length_take]; rfl)) ?_; (with_reducible refine (sched_Level.calls k 1000 10000000000 4 t201 t202 _ A2.out).mono ?_); rintro e w8 ⟨rfl, hb⟩; refine ⟨_, rfl, ?_⟩; have n0_ := Aside0.mk (Kd.R_below (by (with_reducible repeat (first | apply Kd.R_alloc | apply Kd.R_drewN | apply Kd.R_drew)); exact HO196.out) hb); have n1_ := Aside0.mk (Kd.R_below (by (with_reducible repeat (first | apply Kd.R_alloc | apply Kd.R_drewN | apply Kd.R_drew)); exact HO199.out) hb); have n2_ := Aside0.mk (below_step (by repeat (first | (with_reducible first | exact HB.out | apply below_alloc | apply pw_below_drewN | apply below_drew1) | exact HB.out)) hb); clear HO196; clear HO199; clear HB; have HO196 := n0_; have HO199 := n1_; have HB := n2_; clear n0_ n1_ n2_; (try clear hb); (try clear hb2); (try clear hk); (try clear hi)))
  have H := HC3.out
  clear HC3
  by_cases c9 : t200 = 0
  · rw [if_pos c9] at H
    have c9b0 : (t200 == 0) = true := beq_iff_eq.mpr c9
    have c9b1 : (t200 != 0) = false := bne_eq_false_iff_eq.mpr c9
    clear c9
    by_cases c10 : (t197.length : Int) = 4
    · rw [if_pos c10] at H
      have c10b0 : ((t197.length : Int) == 4) = true := beq_iff_eq.mpr c10
      have c10b1 : ((t197.length : Int) != 4) = false := bne_eq_false_iff_eq.mpr c10
      clear c10
      by_cases c11 : 1 < (t197.length : Int)
      · rw [if_pos c11] at H
        have c11b0 : decide (1 < (t197.length : Int)) = true := decide_eq_true c11
        have c11b1 : decide (1 < t197.length) = true := decide_eq_true (by omega)
        clear c11
        by_cases c12 : (((rd_T43 t197 1).f0) == 8 && (((rd_T43 t197 1).f1) == 258 && (((rd_T43 t197 1).f2) == 250 && (((rd_T43 t197 1).f3) == 500)))) = true
        · rw [if_pos c12] at H
          have c12b0 : (((rd_T43 t197 1).f0) == 8 && (((rd_T43 t197 1).f1) == 258 && (((rd_T43 t197 1).f2) == 250 && (((rd_T43 t197 1).f3) == 500)))) = true := c12
          (try (have c12b1 : decide (((rd_T43 t197 1).f0) = 8 && (((rd_T43 t197 1).f1) == 258 && (((rd_T43 t197 1).f2) == 250 && (((rd_T43 t197 1).f3) == 500)))) = true := by simpa using c12))
          (try (have c12b2 : (((rd_T43 t197 1).f0) == 8 && (((rd_T43 t197 1).f1) == 258 && (((rd_T43 t197 1).f2) == 250 && (((rd_T43 t197 1).f3) == 500)))) = true := by simpa using c12))
          clear c12
          by_cases c13 : 3 < (t197.length : Int)
          · rw [if_pos c13] at H
            have c13b0 : decide (3 < (t197.length : Int)) = true := decide_eq_true c13
            have c13b1 : decide (3 < t197.length) = true := decide_eq_true (by omega)
            clear c13
            by_cases c14 : ((rd_T43 t197 3).f1) = 252
            · rw [if_pos c14] at H
              have c14b0 : (((rd_T43 t197 3).f1) == 252) = true := beq_iff_eq.mpr c14
              have c14b1 : (((rd_T43 t197 3).f1) != 252) = false := bne_eq_false_iff_eq.mpr c14
              clear c14
              by_cases c15 : t201 = 257
              · rw [if_pos c15] at H
                have c15b0 : (t201 == 257) = true := beq_iff_eq.mpr c15
                have c15b1 : (t201 != 257) = false := bne_eq_false_iff_eq.mpr c15
                clear c15
                obtain rfl := Option.some.inj H
                obtain ⟨Ao16, co16, eo16⟩ := Kd.R_slice HO199.out
                subst eo16
                have p203 : 0 ≤ (1 : Int) := (by omega)
                have q203 : 1 < (t197.length : Int) := of_decide_eq_true (by first | (with_reducible assumption) | assumption)
                obtain ⟨ad203, e203, hx203_0, hx203_1, hx203_2, hx203_3⟩ := at_T43 (Kd.R_reads' HO199.out).2.2 1 p203 q203
                cases e203
                (try simp only [show (1 : Int).toNat = 1 from rfl, Nat.reduceMul, Nat.reduceEqDiff, Go.Addr.add, ↓reduceIte] at hx203_0)
                (try simp only [show (1 : Int).toNat = 1 from rfl, Nat.reduceMul, Nat.reduceEqDiff, Go.Addr.add, ↓reduceIte] at hx203_1)
                (try simp only [show (1 : Int).toNat = 1 from rfl, Nat.reduceMul, Nat.reduceEqDiff, Go.Addr.add, ↓reduceIte] at hx203_2)
                (try simp only [show (1 : Int).toNat = 1 from rfl, Nat.reduceMul, Nat.reduceEqDiff, Go.Addr.add, ↓reduceIte] at hx203_3)
                have qi203 : (1 < t197.length) = True := eq_true (by omega)
                (try rw [show ((1 : Int)).toNat = 1 from rfl] at hx203_0)
                (try rw [show 1 * 4 = 4 from rfl] at hx203_0)
                (try rw [show ((1 : Int)).toNat = 1 from rfl] at hx203_1)
                (try rw [show 1 * 4 = 4 from rfl] at hx203_1)
                (try rw [show ((1 : Int)).toNat = 1 from rfl] at hx203_2)
                (try rw [show 1 * 4 = 4 from rfl] at hx203_2)
                (try rw [show ((1 : Int)).toNat = 1 from rfl] at hx203_3)
                (try rw [show 1 * 4 = 4 from rfl] at hx203_3)
                replace p203 := eq_true p203
                replace q203 := eq_true q203
                have p204 : 0 ≤ (3 : Int) := (by omega)
                have q204 : 3 < (t197.length : Int) := of_decide_eq_true (by first | (with_reducible assumption) | assumption)
                obtain ⟨ad204, e204, hx204_0, hx204_1, hx204_2, hx204_3⟩ := at_T43 (Kd.R_reads' HO199.out).2.2 3 p204 q204
                obtain rfl : ad203 = ad204 := (by injection e204)
                (try simp only [show (3 : Int).toNat = 3 from rfl, Nat.reduceMul, Nat.reduceEqDiff, Go.Addr.add, ↓reduceIte] at hx204_0)
                (try simp only [show (3 : Int).toNat = 3 from rfl, Nat.reduceMul, Nat.reduceEqDiff, Go.Addr.add, ↓reduceIte] at hx204_1)
                (try simp only [show (3 : Int).toNat = 3 from rfl, Nat.reduceMul, Nat.reduceEqDiff, Go.Addr.add, ↓reduceIte] at hx204_2)
                (try simp only [show (3 : Int).toNat = 3 from rfl, Nat.reduceMul, Nat.reduceEqDiff, Go.Addr.add, ↓reduceIte] at hx204_3)
                have qi204 : (3 < t197.length) = True := eq_true (by omega)
                (try rw [show ((3 : Int)).toNat = 3 from rfl] at hx204_0)
                (try rw [show 3 * 4 = 12 from rfl] at hx204_0)
                (try rw [show ((3 : Int)).toNat = 3 from rfl] at hx204_1)
                (try rw [show 3 * 4 = 12 from rfl] at hx204_1)
                (try rw [show ((3 : Int)).toNat = 3 from rfl] at hx204_2)
                (try rw [show 3 * 4 = 12 from rfl] at hx204_2)
                (try rw [show ((3 : Int)).toNat = 3 from rfl] at hx204_3)
                (try rw [show 3 * 4 = 12 from rfl] at hx204_3)
                replace p204 := eq_true p204
                replace q204 := eq_true q204
                go_wp2
                go_ret
                exact ⟨by first | rfl | (simp [errW_none, errW_some] <;> rfl) | (simp [*, errW_none, errW_some] <;> rfl), by repeat (first | (with_reducible first | exact HB.out | apply below_alloc | apply pw_below_drewN | apply below_drew1) | exact HB.out)⟩
              · rw [if_neg c15] at H
                have c15b0 : (t201 == 257) = false := beq_eq_false_iff_ne.mpr c15
                have c15b1 : (t201 != 257) = true := bne_iff_ne.mpr c15
                obtain rfl := Option.some.inj H
                obtain ⟨Ao17, co17, eo17⟩ := Kd.R_slice HO199.out
                subst eo17
                have p203 : 0 ≤ (1 : Int) := (by omega)
                have q203 : 1 < (t197.length : Int) := of_decide_eq_true (by first | (with_reducible assumption) | assumption)
                obtain ⟨ad203, e203, hx203_0, hx203_1, hx203_2, hx203_3⟩ := at_T43 (Kd.R_reads' HO199.out).2.2 1 p203 q203
                cases e203
                (try simp only [show (1 : Int).toNat = 1 from rfl, Nat.reduceMul, Nat.reduceEqDiff, Go.Addr.add, ↓reduceIte] at hx203_0)
                (try simp only [show (1 : Int).toNat = 1 from rfl, Nat.reduceMul, Nat.reduceEqDiff, Go.Addr.add, ↓reduceIte] at hx203_1)
                (try simp only [show (1 : Int).toNat = 1 from rfl, Nat.reduceMul, Nat.reduceEqDiff, Go.Addr.add, ↓reduceIte] at hx203_2)
                (try simp only [show (1 : Int).toNat = 1 from rfl, Nat.reduceMul, Nat.reduceEqDiff, Go.Addr.add, ↓reduceIte] at hx203_3)
                have qi203 : (1 < t197.length) = True := eq_true (by omega)
                (try rw [show ((1 : Int)).toNat = 1 from rfl] at hx203_0)
                (try rw [show 1 * 4 = 4 from rfl] at hx203_0)
                (try rw [show ((1 : Int)).toNat = 1 from rfl] at hx203_1)
                (try rw [show 1 * 4 = 4 from rfl] at hx203_1)
                (try rw [show ((1 : Int)).toNat = 1 from rfl] at hx203_2)
                (try rw [show 1 * 4 = 4 from rfl] at hx203_2)
                (try rw [show ((1 : Int)).toNat = 1 from rfl] at hx203_3)
                (try rw [show 1 * 4 = 4 from rfl] at hx203_3)
                replace p203 := eq_true p203
                replace q203 := eq_true q203
                have p204 : 0 ≤ (3 : Int) := (by omega)
                have q204 : 3 < (t197.length : Int) := of_decide_eq_true (by first | (with_reducible assumption) | assumption)
                obtain ⟨ad204, e204, hx204_0, hx204_1, hx204_2, hx204_3⟩ := at_T43 (Kd.R_reads' HO199.out).2.2 3 p204 q204
                obtain rfl : ad203 = ad204 := (by injection e204)
                (try simp only [show (3 : Int).toNat = 3 from rfl, Nat.reduceMul, Nat.reduceEqDiff, Go.Addr.add, ↓reduceIte] at hx204_0)
                (try simp only [show (3 : Int).toNat = 3 from rfl, Nat.reduceMul, Nat.reduceEqDiff, Go.Addr.add, ↓reduceIte] at hx204_1)
                (try simp only [show (3 : Int).toNat = 3 from rfl, Nat.reduceMul, Nat.reduceEqDiff, Go.Addr.add, ↓reduceIte] at hx204_2)
                (try simp only [show (3 : Int).toNat = 3 from rfl, Nat.reduceMul, Nat.reduceEqDiff, Go.Addr.add, ↓reduceIte] at hx204_3)
                have qi204 : (3 < t197.length) = True := eq_true (by omega)
                (try rw [show ((3 : Int)).toNat = 3 from rfl] at hx204_0)
                (try rw [show 3 * 4 = 12 from rfl] at hx204_0)
                (try rw [show ((3 : Int)).toNat = 3 from rfl] at hx204_1)
                (try rw [show 3 * 4 = 12 from rfl] at hx204_1)
                (try rw [show ((3 : Int)).toNat = 3 from rfl] at hx204_2)
                (try rw [show 3 * 4 = 12 from rfl] at hx204_2)
                (try rw [show ((3 : Int)).toNat = 3 from rfl] at hx204_3)
                (try rw [show 3 * 4 = 12 from rfl] at hx204_3)
                replace p204 := eq_true p204
                replace q204 := eq_true q204
                go_wp2
                go_ret
                exact ⟨by first | rfl | (simp [errW_none, errW_some] <;> rfl) | (simp [*, errW_none, errW_some] <;> rfl), by repeat (first | (with_reducible first | exact HB.out | apply below_alloc | apply pw_below_drewN | apply below_drew1) | exact HB.out)⟩
            · rw [if_neg c14] at H
              have c14b0 : (((rd_T43 t197 3).f1) == 252) = false := beq_eq_false_iff_ne.mpr c14
              have c14b1 : (((rd_T43 t197 3).f1) != 252) = true := bne_iff_ne.mpr c14
              obtain rfl := Option.some.inj H
              obtain ⟨Ao18, co18, eo18⟩ := Kd.R_slice HO199.out
              subst eo18
              have p203 : 0 ≤ (1 : Int) := (by omega)
              have q203 : 1 < (t197.length : Int) := of_decide_eq_true (by first | (with_reducible assumption) | assumption)
              obtain ⟨ad203, e203, hx203_0, hx203_1, hx203_2, hx203_3⟩ := at_T43 (Kd.R_reads' HO199.out).2.2 1 p203 q203
              cases e203
              (try simp only [show (1 : Int).toNat = 1 from rfl, Nat.reduceMul, Nat.reduceEqDiff, Go.Addr.add, ↓reduceIte] at hx203_0)
              (try simp only [show (1 : Int).toNat = 1 from rfl, Nat.reduceMul, Nat.reduceEqDiff, Go.Addr.add, ↓reduceIte] at hx203_1)
              (try simp only [show (1 : Int).toNat = 1 from rfl, Nat.reduceMul, Nat.reduceEqDiff, Go.Addr.add, ↓reduceIte] at hx203_2)
              (try simp only [show (1 : Int).toNat = 1 from rfl, Nat.reduceMul, Nat.reduceEqDiff, Go.Addr.add, ↓reduceIte] at hx203_3)
              have qi203 : (1 < t197.length) = True := eq_true (by omega)
              (try rw [show ((1 : Int)).toNat = 1 from rfl] at hx203_0)
              (try rw [show 1 * 4 = 4 from rfl] at hx203_0)
              (try rw [show ((1 : Int)).toNat = 1 from rfl] at hx203_1)
              (try rw [show 1 * 4 = 4 from rfl] at hx203_1)
              (try rw [show ((1 : Int)).toNat = 1 from rfl] at hx203_2)
              (try rw [show 1 * 4 = 4 from rfl] at hx203_2)
              (try rw [show ((1 : Int)).toNat = 1 from rfl] at hx203_3)
              (try rw [show 1 * 4 = 4 from rfl] at hx203_3)
              replace p203 := eq_true p203
              replace q203 := eq_true q203
              have p204 : 0 ≤ (3 : Int) := (by omega)
              have q204 : 3 < (t197.length : Int) := of_decide_eq_true (by first | (with_reducible assumption) | assumption)
              obtain ⟨ad204, e204, hx204_0, hx204_1, hx204_2, hx204_3⟩ := at_T43 (Kd.R_reads' HO199.out).2.2 3 p204 q204
              obtain rfl : ad203 = ad204 := (by injection e204)
              (try simp only [show (3 : Int).toNat = 3 from rfl, Nat.reduceMul, Nat.reduceEqDiff, Go.Addr.add, ↓reduceIte] at hx204_0)
              (try simp only [show (3 : Int).toNat = 3 from rfl, Nat.reduceMul, Nat.reduceEqDiff, Go.Addr.add, ↓reduceIte] at hx204_1)
              (try simp only [show (3 : Int).toNat = 3 from rfl, Nat.reduceMul, Nat.reduceEqDiff, Go.Addr.add, ↓reduceIte] at hx204_2)
              (try simp only [show (3 : Int).toNat = 3 from rfl, Nat.reduceMul, Nat.reduceEqDiff, Go.Addr.add, ↓reduceIte] at hx204_3)
              have qi204 : (3 < t197.length) = True := eq_true (by omega)
              (try rw [show ((3 : Int)).toNat = 3 from rfl] at hx204_0)
              (try rw [show 3 * 4 = 12 from rfl] at hx204_0)
              (try rw [show ((3 : Int)).toNat = 3 from rfl] at hx204_1)
              (try rw [show 3 * 4 = 12 from rfl] at hx204_1)
              (try rw [show ((3 : Int)).toNat = 3 from rfl] at hx204_2)
              (try rw [show 3 * 4 = 12 from rfl] at hx204_2)
              (try rw [show ((3 : Int)).toNat = 3 from rfl] at hx204_3)
              (try rw [show 3 * 4 = 12 from rfl] at hx204_3)
              replace p204 := eq_true p204
              replace q204 := eq_true q204
              go_wp2
              go_ret
              exact ⟨by first | rfl | (simp [errW_none, errW_some] <;> rfl) | (simp [*, errW_none, errW_some] <;> rfl), by repeat (first | (with_reducible first | exact HB.out | apply below_alloc | apply pw_below_drewN | apply below_drew1) | exact HB.out)⟩
          · rw [if_neg c13] at H
            exact absurd H (by simp)
        · rw [if_neg c12] at H
          have c12b0 : (((rd_T43 t197 1).f0) == 8 && (((rd_T43 t197 1).f1) == 258 && (((rd_T43 t197 1).f2) == 250 && (((rd_T43 t197 1).f3) == 500)))) = false := by simpa using c12
          (try (have c12b1 : decide (((rd_T43 t197 1).f0) = 8 && (((rd_T43 t197 1).f1) == 258 && (((rd_T43 t197 1).f2) == 250 && (((rd_T43 t197 1).f3) == 500)))) = false := by simpa using c12))
          (try (have c12b2 : (((rd_T43 t197 1).f0) == 8 && (((rd_T43 t197 1).f1) == 258 && (((rd_T43 t197 1).f2) == 250 && (((rd_T43 t197 1).f3) == 500)))) = false := by simpa using c12))
          (try (have c12b3 : ¬ (((rd_T43 t197 1).f0) = 8 && (((rd_T43 t197 1).f1) == 258 && (((rd_T43 t197 1).f2) == 250 && (((rd_T43 t197 1).f3) == 500)))) := by simpa using c12))
          clear c12
          obtain rfl := Option.some.inj H
          obtain ⟨Ao19, co19, eo19⟩ := Kd.R_slice HO199.out
          subst eo19
          have p203 : 0 ≤ (1 : Int) := (by omega)
          have q203 : 1 < (t197.length : Int) := of_decide_eq_true (by first | (with_reducible assumption) | assumption)
          obtain ⟨ad203, e203, hx203_0, hx203_1, hx203_2, hx203_3⟩ := at_T43 (Kd.R_reads' HO199.out).2.2 1 p203 q203
          cases e203
          (try simp only [show (1 : Int).toNat = 1 from rfl, Nat.reduceMul, Nat.reduceEqDiff, Go.Addr.add, ↓reduceIte] at hx203_0)
          (try simp only [show (1 : Int).toNat = 1 from rfl, Nat.reduceMul, Nat.reduceEqDiff, Go.Addr.add, ↓reduceIte] at hx203_1)
          (try simp only [show (1 : Int).toNat = 1 from rfl, Nat.reduceMul, Nat.reduceEqDiff, Go.Addr.add, ↓reduceIte] at hx203_2)
          (try simp only [show (1 : Int).toNat = 1 from rfl, Nat.reduceMul, Nat.reduceEqDiff, Go.Addr.add, ↓reduceIte] at hx203_3)
          have qi203 : (1 < t197.length) = True := eq_true (by omega)
          (try rw [show ((1 : Int)).toNat = 1 from rfl] at hx203_0)
          (try rw [show 1 * 4 = 4 from rfl] at hx203_0)
          (try rw [show ((1 : Int)).toNat = 1 from rfl] at hx203_1)
          (try rw [show 1 * 4 = 4 from rfl] at hx203_1)
          (try rw [show ((1 : Int)).toNat = 1 from rfl] at hx203_2)
          (try rw [show 1 * 4 = 4 from rfl] at hx203_2)
          (try rw [show ((1 : Int)).toNat = 1 from rfl] at hx203_3)
          (try rw [show 1 * 4 = 4 from rfl] at hx203_3)
          replace p203 := eq_true p203
          replace q203 := eq_true q203
          go_wp2
          go_ret
          exact ⟨by first | rfl | (simp [errW_none, errW_some] <;> rfl) | (simp [*, errW_none, errW_some] <;> rfl), by repeat (first | (with_reducible first | exact HB.out | apply below_alloc | apply pw_below_drewN | apply below_drew1) | exact HB.out)⟩
      · rw [if_neg c11] at H
        exact absurd H (by simp)
    · rw [if_neg c10] at H
      have c10b0 : ((t197.length : Int) == 4) = false := beq_eq_false_iff_ne.mpr c10
      have c10b1 : ((t197.length : Int) != 4) = true := bne_iff_ne.mpr c10
      obtain rfl := Option.some.inj H
      obtain ⟨Ao20, co20, eo20⟩ := Kd.R_slice HO199.out
      subst eo20
      go_wp2
      go_ret
      exact ⟨by first | rfl | (simp [errW_none, errW_some] <;> rfl) | (simp [*, errW_none, errW_some] <;> rfl), by repeat (first | (with_reducible first | exact HB.out | apply below_alloc | apply pw_below_drewN | apply below_drew1) | exact HB.out)⟩
  · rw [if_neg c9] at H
    have c9b0 : (t200 == 0) = false := beq_eq_false_iff_ne.mpr c9
    have c9b1 : (t200 != 0) = true := bne_iff_ne.mpr c9
    obtain rfl := Option.some.inj H
    go_wp2
    go_ret
    exact ⟨by first | rfl | (simp [errW_none, errW_some] <;> rfl) | (simp [*, errW_none, errW_some] <;> rfl), by repeat (first | (with_reducible first | exact HB.out | apply below_alloc | apply pw_below_drewN | apply below_drew1) | exact HB.out)⟩

end Go.Proofs.Ytchpeobenlnemaa.S
end

section
namespace Go.Proofs.Ytchpeobenlnemaa.S
open Go.RowKit Go.Proofs.YtchpeobenlnemaaW.PrintWords Go.Proofs.YtchpeobenlnemaaW.PrintLast Go.Proofs.YtchpeobenlnemaaW.PrintMore
attribute [local go_sem] max2_int min2_int max_two min_two max_three min_three max_four min_four   -- for this text's walks alone
attribute [local go_sem] Go.Proofs.Ytchpeobenlnemaa.XWalk.cell2
set_option linter.unusedVariables false
set_option linter.unusedSimpArgs false

/-! ### lombardlaw08_great: function 10 -/
def lombardlaw08_great.f (a0_0 : Int) (a0_1 : Int) (l0_2 : List Int) (a0_3 : Int) : Option (Bool) := if (l0_2.length : Int) > 60 then (some true) else (if a0_3 > 60 then (some (decide (a0_3 ≤ 600))) else (some false))
set_option maxHeartbeats 8000000 in
set_option maxRecDepth 100000 in
theorem lombardlaw08_great.calls (a0_0 : Int) (a0_1 : Int) (A0_2 : Option Addr) (c0_2 : Nat) (l0_2 : List Int) (a0_3 : Int) (r : Bool) (w : World) (hr0_2 : Kd.C (Kd.int .i64) w A0_2 l0_2.length l0_2) (hc0_2 : l0_2.length ≤ c0_2) (h : lombardlaw08_great.f a0_0 a0_1 l0_2 a0_3 = some r) :
    Calls Try.prog 10 #[.agg #[.int .i64 a0_0, .int .i64 a0_1, .slice A0_2 l0_2.length c0_2, .int .i64 a0_3]] w fun e w' => e = .returned (.bool r) ∧ Below w.heap.size w w' := by
  have hu24 := Try.underlying24
  have HR0_2 := Aside0.mk hr0_2
  have HC0_2 := Aside0.mk hc0_2
  clear hr0_2 hc0_2
  have HB := Aside0.mk (Below.refl w.heap.size w)
  have H : (if (l0_2.length : Int) > 60 then (some true) else (if a0_3 > 60 then (some (decide (a0_3 ≤ 600))) else (some false))) = some r := h
  clear h
  have HC2 := Aside0.mk H
  clear H
  go_enter Try.func10, Try.ntmps10
  go_upto_region 1 with (first | ((with_reducible refine gate_dst (N := 1) rfl ?_); refine box_event ?hg (N := 1) ?hd (cs := #[.int .i64 a0_0, .int .i64 a0_1, .slice A0_2 l0_2.length c0_2, .int .i64 a0_3]) (t := 24) ?hr ?_; (case hd => rfl); (case hg => rfl); (case hr => first | (go_simp; done) | (go_simp; rfl)); intro gb205 hg w3 hbox hb; have n0_ := Aside0.mk (below_step (by repeat (first | (with_reducible first | exact HB.out | apply below_alloc | apply pw_below_drewN | apply below_drew1) | exact HB.out)) hb); have n1_ := Aside0.mk (hbox); have n2_ := Aside0.mk ((by rw [hg]; exact (below_size (by repeat (first | (with_reducible first | exact HB.out | apply below_alloc | apply pw_below_drewN | apply below_drew1) | exact HB.out))) : w.heap.size ≤ gb205)); have n3_ := Aside0.mk ((by rw [hg]; exact (below_size (by repeat (first | (with_reducible first | exact HB.out | apply below_alloc | apply pw_below_drewN | apply below_drew1) | exact HB.out))) : w.heap.size ≤ gb205)); clear HB; have HB := n0_; have BK205 := n1_; have GW205 := n2_; have GE205 := n3_; clear n0_ n1_ n2_ n3_; clear hb hbox hg))
  have H := HC2.out
  clear HC2
  by_cases c4 : (l0_2.length : Int) > 60
  · rw [if_pos c4] at H
    have c4b0 : decide (60 < (l0_2.length : Int)) = true := decide_eq_true c4
    have c4b1 : decide (60 < l0_2.length) = true := decide_eq_true (by omega)
    clear c4
    obtain rfl := Option.some.inj H
    have hcz5_0 : w3.cell? ⟨gb205, 0, none⟩ = some (.int .i64 a0_0) := (blk_cell BK205.out 0).trans rfl
    have hcz5_1 : w3.cell? ⟨gb205, 1, none⟩ = some (.int .i64 a0_1) := (blk_cell BK205.out 1).trans rfl
    have hcz5_2 : w3.cell? ⟨gb205, 2, none⟩ = some (.slice A0_2 l0_2.length c0_2) := (blk_cell BK205.out 2).trans rfl
    have hcz5_3 : w3.cell? ⟨gb205, 3, none⟩ = some (.int .i64 a0_3) := (blk_cell BK205.out 3).trans rfl
    have hfz5_0 := blk_frozen BK205.out 0
    have hfz5_1 := blk_frozen BK205.out 1
    have hfz5_2 := blk_frozen BK205.out 2
    have hfz5_3 := blk_frozen BK205.out 3
    go_wp2
    go_ret
    exact ⟨by first | rfl | (simp [errW_none, errW_some] <;> rfl) | (simp [*, errW_none, errW_some] <;> rfl), by repeat (first | (with_reducible first | exact HB.out | apply below_alloc | apply pw_below_drewN | apply below_drew1 | refine below_set ?_ GE205.out) | exact HB.out)⟩
  · rw [if_neg c4] at H
    have c4b0 : decide (60 < (l0_2.length : Int)) = false := decide_eq_false c4
    have c4b1 : decide (60 < l0_2.length) = false := decide_eq_false (by omega)
    clear c4
    by_cases c6 : a0_3 > 60
    · rw [if_pos c6] at H
      have c6b0 : decide (60 < a0_3) = true := decide_eq_true c6
      clear c6
      obtain rfl := Option.some.inj H
      have hcz7_0 : w3.cell? ⟨gb205, 0, none⟩ = some (.int .i64 a0_0) := (blk_cell BK205.out 0).trans rfl
      have hcz7_1 : w3.cell? ⟨gb205, 1, none⟩ = some (.int .i64 a0_1) := (blk_cell BK205.out 1).trans rfl
      have hcz7_2 : w3.cell? ⟨gb205, 2, none⟩ = some (.slice A0_2 l0_2.length c0_2) := (blk_cell BK205.out 2).trans rfl
      have hcz7_3 : w3.cell? ⟨gb205, 3, none⟩ = some (.int .i64 a0_3) := (blk_cell BK205.out 3).trans rfl
      have hfz7_0 := blk_frozen BK205.out 0
      have hfz7_1 := blk_frozen BK205.out 1
      have hfz7_2 := blk_frozen BK205.out 2
      have hfz7_3 := blk_frozen BK205.out 3
      go_wp2
      go_ret
      exact ⟨by first | rfl | (simp [errW_none, errW_some] <;> rfl) | (simp [*, errW_none, errW_some] <;> rfl), by repeat (first | (with_reducible first | exact HB.out | apply below_alloc | apply pw_below_drewN | apply below_drew1 | refine below_set ?_ GE205.out) | exact HB.out)⟩
    · rw [if_neg c6] at H
      have c6b0 : decide (60 < a0_3) = false := decide_eq_false c6
      clear c6
      obtain rfl := Option.some.inj H
      have hcz8_0 : w3.cell? ⟨gb205, 0, none⟩ = some (.int .i64 a0_0) := (blk_cell BK205.out 0).trans rfl
      have hcz8_1 : w3.cell? ⟨gb205, 1, none⟩ = some (.int .i64 a0_1) := (blk_cell BK205.out 1).trans rfl
      have hcz8_2 : w3.cell? ⟨gb205, 2, none⟩ = some (.slice A0_2 l0_2.length c0_2) := (blk_cell BK205.out 2).trans rfl
      have hcz8_3 : w3.cell? ⟨gb205, 3, none⟩ = some (.int .i64 a0_3) := (blk_cell BK205.out 3).trans rfl
      have hfz8_0 := blk_frozen BK205.out 0
      have hfz8_1 := blk_frozen BK205.out 1
      have hfz8_2 := blk_frozen BK205.out 2
      have hfz8_3 := blk_frozen BK205.out 3
      go_wp2
      go_ret
      exact ⟨by first | rfl | (simp [errW_none, errW_some] <;> rfl) | (simp [*, errW_none, errW_some] <;> rfl), by repeat (first | (with_reducible first | exact HB.out | apply below_alloc | apply pw_below_drewN | apply below_drew1 | refine below_set ?_ GE205.out) | exact HB.out)⟩

end Go.Proofs.Ytchpeobenlnemaa.S
end

section
namespace Go.Proofs.Ytchpeobenlnemaa.S
open Go.RowKit Go.Proofs.YtchpeobenlnemaaW.PrintWords Go.Proofs.YtchpeobenlnemaaW.PrintLast Go.Proofs.YtchpeobenlnemaaW.PrintMore
attribute [local go_sem] max2_int min2_int max_two min_two max_three min_three max_four min_four   -- for this text's walks alone
attribute [local go_sem] Go.Proofs.Ytchpeobenlnemaa.XWalk.cell2
set_option linter.unusedVariables false
set_option linter.unusedSimpArgs false

/-! ### lombardlaw08_SchedRates: function 8 -/
mutual
def lombardlaw08_SchedRates.l0 : Nat → Int → List (S43) → Int → Int → List (S43) → Int → Int → Int → Int → List Int → Int → Option (Bool)
  | 0, _, _, _, _, _, _, _, _, _, _, _ => none
  | k + 1, x1, x5, x9, x10, x38, x39, x40, x351000, x351001, x351002, x351003 => if x40 < x39 then (if 0 ≤ x40 then (if x40 < (x38.length : Int) then (lombardlaw08_SchedRates.l0 k x1 x5 x9 (wrap64 (x10 + ((rd_T43 x38 x40).f1))) x38 x39 (wrap64 (x40 + 1)) x351000 x351001 x351002 x351003) else (none)) else (none)) else (if x9 = 0 then (lombardlaw08_SchedRates.j1 k x1 x5 (x10 != x351001) x351000 x351001 x351002 x351003) else (lombardlaw08_SchedRates.j1 k x1 x5 true x351000 x351001 x351002 x351003))
def lombardlaw08_SchedRates.j1 : Nat → Int → List (S43) → Bool → Int → Int → List Int → Int → Option (Bool)
  | 0, _, _, _, _, _, _, _ => none
  | k + 1, x1, x5, x56, x351000, x351001, x351002, x351003 => if x56 = true then (some false) else (lombardlaw08_SchedRates.l1 k x1 x5 x351002 (x351002.length : Int) 0 x351000 x351001 x351002 x351003 x351000 x351001 ([] : List Int) x351003)
def lombardlaw08_SchedRates.l1 : Nat → Int → List (S43) → List Int → Int → Int → Int → Int → List Int → Int → Int → Int → List Int → Int → Option (Bool)
  | 0, _, _, _, _, _, _, _, _, _, _, _, _, _ => none
  | k + 1, x1, x5, x60, x61, x62, x351000, x351001, x351002, x351003, x368000, x368001, x368002, x368003 => if x62 < x61 then (if 0 ≤ x62 then (if x62 < (x60.length : Int) then (if x368002.length < 17592186044416 then (lombardlaw08_SchedRates.l1 k x1 x5 x60 x61 (wrap64 (x62 + 1)) x351000 x351001 x351002 x351003 x368000 x368001 (x368002 ++ [mn (wrap64 ((rd x60 x62) + (wrap64 (x1)))) 1000000000000]) x368003) else (none)) else (none)) else (none)) else ((sched_Build.f k x368000 x368001 x368002 x368003).bind fun bt372 => (if bt372.2 = 0 then (lombardlaw08_SchedRates.j3 k x5 bt372.1 bt372.2 (x351000 == 1)) else (lombardlaw08_SchedRates.j3 k x5 bt372.1 bt372.2 true)))
def lombardlaw08_SchedRates.j3 : Nat → List (S43) → List (S43) → Int → Bool → Option (Bool)
  | 0, _, _, _, _ => none
  | k + 1, x5, x16, x17, x88 => if x88 = true then (if x17 = 0 then (some true) else (some (x17 == 3))) else (lombardlaw08_SchedRates.l2 k x5 x16 (x5.length : Int) 0)
def lombardlaw08_SchedRates.l2 : Nat → List (S43) → List (S43) → Int → Int → Option (Bool)
  | 0, _, _, _, _ => none
  | k + 1, x5, x16, x96, x97 => if x97 < x96 then (if 0 ≤ x97 then (if x97 < (x16.length : Int) then (if x97 < (x5.length : Int) then (if ((rd_T43 x16 x97).f0) < ((rd_T43 x5 x97).f0) then (some false) else (lombardlaw08_SchedRates.l2 k x5 x16 x96 (wrap64 (x97 + 1)))) else (none)) else (none)) else (none)) else (some true)
end
def lombardlaw08_SchedRates.f (k : Nat) (a0_0 : Int) (a0_1 : Int) (l0_2 : List Int) (a0_3 : Int) (a1 : Int) : Option (Bool) := (lombardlaw08_alive.f k).bind fun t351 => (if t351 = true then ((lombardlaw08_great.f a0_0 a0_1 l0_2 a0_3).bind fun t352 => (if t352 = true then (some true) else ((sched_Build.f k a0_0 a0_1 l0_2 a0_3).bind fun bt353 => (if bt353.2 = 0 then ((sched_Build.f k a0_0 a0_1 (([0] : List Int)) a0_3).bind fun bt361 => (lombardlaw08_SchedRates.l0 k a1 bt353.1 bt361.2 0 bt361.1 (bt361.1.length : Int) 0 a0_0 a0_1 l0_2 a0_3)) else (some true))))) else (some false))
set_option maxHeartbeats 8000000 in
set_option maxRecDepth 100000 in
theorem lombardlaw08_SchedRates.calls (k : Nat) (a0_0 : Int) (a0_1 : Int) (A0_2 : Option Addr) (c0_2 : Nat) (l0_2 : List Int) (a0_3 : Int) (a1 : Int) (r : Bool) (w : World) (hr0_2 : Kd.C (Kd.int .i64) w A0_2 l0_2.length l0_2) (hc0_2 : l0_2.length ≤ c0_2) (h : lombardlaw08_SchedRates.f k a0_0 a0_1 l0_2 a0_3 a1 = some r) :
    Calls Try.prog 8 #[.agg #[.int .i64 a0_0, .int .i64 a0_1, .slice A0_2 l0_2.length c0_2, .int .i64 a0_3], .int .u32 a1] w fun e w' => e = .returned (.bool r) ∧ Below w.heap.size w w' := by
  have hu24 := Try.underlying24
  have hu43 := Try.underlying43
  have HR0_2 := Aside0.mk hr0_2
  have HC0_2 := Aside0.mk hc0_2
  clear hr0_2 hc0_2
  have HB := Aside0.mk (Below.refl w.heap.size w)
  have H : ((lombardlaw08_alive.f k).bind fun t351 => (if t351 = true then ((lombardlaw08_great.f a0_0 a0_1 l0_2 a0_3).bind fun t352 => (if t352 = true then (some true) else ((sched_Build.f k a0_0 a0_1 l0_2 a0_3).bind fun bt353 => (if bt353.2 = 0 then ((sched_Build.f k a0_0 a0_1 (([0] : List Int)) a0_3).bind fun bt361 => (lombardlaw08_SchedRates.l0 k a1 bt353.1 bt361.2 0 bt361.1 (bt361.1.length : Int) 0 a0_0 a0_1 l0_2 a0_3)) else (some true))))) else (some false))) = some r := h
  clear h
  replace H := Option.bind_eq_some_iff.mp H
  obtain ⟨t351, A30, H⟩ := H
  replace H : (if t351 = true then ((lombardlaw08_great.f a0_0 a0_1 l0_2 a0_3).bind fun t352 => (if t352 = true then (some true) else ((sched_Build.f k a0_0 a0_1 l0_2 a0_3).bind fun bt353 => (if bt353.2 = 0 then ((sched_Build.f k a0_0 a0_1 (([0] : List Int)) a0_3).bind fun bt361 => (lombardlaw08_SchedRates.l0 k a1 bt353.1 bt361.2 0 bt361.1 (bt361.1.length : Int) 0 a0_0 a0_1 l0_2 a0_3)) else (some true))))) else (some false)) = some r := H
  have A3 := Aside0.mk A30
  clear A30
  by_cases c4 : t351 = true
  · subst c4
    have H1 : ((lombardlaw08_great.f a0_0 a0_1 l0_2 a0_3).bind fun t352 => (if t352 = true then (some true) else ((sched_Build.f k a0_0 a0_1 l0_2 a0_3).bind fun bt353 => (if bt353.2 = 0 then ((sched_Build.f k a0_0 a0_1 (([0] : List Int)) a0_3).bind fun bt361 => (lombardlaw08_SchedRates.l0 k a1 bt353.1 bt361.2 0 bt361.1 (bt361.1.length : Int) 0 a0_0 a0_1 l0_2 a0_3)) else (some true))))) = some r := by rw [if_pos rfl] at H; exact H
    clear H
    have H := H1
    clear H1
    replace H := Option.bind_eq_some_iff.mp H
    obtain ⟨t352, A50, H⟩ := H
    replace H : (if t352 = true then (some true) else ((sched_Build.f k a0_0 a0_1 l0_2 a0_3).bind fun bt353 => (if bt353.2 = 0 then ((sched_Build.f k a0_0 a0_1 (([0] : List Int)) a0_3).bind fun bt361 => (lombardlaw08_SchedRates.l0 k a1 bt353.1 bt361.2 0 bt361.1 (bt361.1.length : Int) 0 a0_0 a0_1 l0_2 a0_3)) else (some true)))) = some r := H
    have A5 := Aside0.mk A50
    clear A50
    by_cases c6 : t352 = true
    · subst c6
      have H1 : (some true) = some r := by rw [if_pos rfl] at H; exact H
      clear H
      have H := H1
      clear H1
      obtain rfl := Option.some.inj H
      go_enter Try.func8, Try.ntmps8
      go_wp2_with (first | ((with_reducible refine gate_dst (N := 2) rfl ?_); refine box_event ?hg (N := 2) ?hd (cs := #[.int .i64 a0_0, .int .i64 a0_1, .slice A0_2 l0_2.length c0_2, .int .i64 a0_3]) (t := 24) ?hr ?_; (case hd => rfl); (case hg => rfl); (case hr => first | (go_simp; done) | (go_simp; rfl)); intro gb350 hg w7 hbox hb; have n0_ := Aside0.mk (below_step (by repeat (first | (with_reducible first | exact HB.out | apply below_alloc | apply pw_below_drewN | apply below_drew1) | exact HB.out)) hb); have n1_ := Aside0.mk (hbox); have n2_ := Aside0.mk ((by rw [hg]; exact (below_size (by repeat (first | (with_reducible first | exact HB.out | apply below_alloc | apply pw_below_drewN | apply below_drew1) | exact HB.out))) : w.heap.size ≤ gb350)); have n3_ := Aside0.mk ((by rw [hg]; exact (below_size (by repeat (first | (with_reducible first | exact HB.out | apply below_alloc | apply pw_below_drewN | apply below_drew1) | exact HB.out))) : w.heap.size ≤ gb350)); clear HB; have HB := n0_; have BK350 := n1_; have GW350 := n2_; have GE350 := n3_; clear n0_ n1_ n2_ n3_; clear hb hbox hg) | (go_at_call 9; (with_reducible refine (lombardlaw08_alive.calls k  true _ A3.out).mono ?_); rintro e w8 ⟨rfl, hb⟩; have n0_ := Aside0.mk (blk_below (g := gb350) (o := .cells #[.int .i64 a0_0, .int .i64 a0_1, .slice A0_2 l0_2.length c0_2, .int .i64 a0_3] 24 (0, 0)) (by (with_reducible repeat (first | refine blk_drewN ?_ _ | refine blk_drew ?_ | refine blk_alloc ?_ _)); exact BK350.out) hb); have n1_ := Aside0.mk (below_step (by repeat (first | (with_reducible first | exact HB.out | apply below_alloc | apply pw_below_drewN | apply below_drew1 | refine below_set ?_ GE350.out) | exact HB.out)) hb); clear BK350; clear HB; have BK350 := n0_; have HB := n1_; clear n0_ n1_; (try clear hb); (try clear hb2); (try clear hk); (try clear hi); have hcz9_0 : w8.cell? ⟨gb350, 0, none⟩ = some (.int .i64 a0_0) := (blk_cell BK350.out 0).trans rfl; have hcz9_1 : w8.cell? ⟨gb350, 1, none⟩ = some (.int .i64 a0_1) := (blk_cell BK350.out 1).trans rfl; have hcz9_2 : w8.cell? ⟨gb350, 2, none⟩ = some (.slice A0_2 l0_2.length c0_2) := (blk_cell BK350.out 2).trans rfl; have hcz9_3 : w8.cell? ⟨gb350, 3, none⟩ = some (.int .i64 a0_3) := (blk_cell BK350.out 3).trans rfl; have hfz9_0 := blk_frozen BK350.out 0; have hfz9_1 := blk_frozen BK350.out 1; have hfz9_2 := blk_frozen BK350.out 2; have hfz9_3 := blk_frozen BK350.out 3) | (go_at_call 10; (with_reducible refine (lombardlaw08_great.calls a0_0 a0_1 _ _ l0_2 a0_3 true _ ?side1 ?side2 A5.out).mono ?_); (case side1 => repeat (first | exact (Kd.C_below HR0_2.out HB.out) | (with_reducible refine Kd.C_alloc ?_ _) | (with_reducible refine Kd.C_drewN ?_ _) | (with_reducible refine Kd.C_drew ?_))); (case side2 => exact HC0_2.out); rintro e w10 ⟨rfl, hb⟩; have n0_ := Aside0.mk (blk_below (g := gb350) (o := .cells #[.int .i64 a0_0, .int .i64 a0_1, .slice A0_2 l0_2.length c0_2, .int .i64 a0_3] 24 (0, 0)) (by (with_reducible repeat (first | refine blk_drewN ?_ _ | refine blk_drew ?_ | refine blk_alloc ?_ _)); exact BK350.out) hb); have n1_ := Aside0.mk (below_step (by repeat (first | (with_reducible first | exact HB.out | apply below_alloc | apply pw_below_drewN | apply below_drew1 | refine below_set ?_ GE350.out) | exact HB.out)) hb); clear BK350; clear HB; have BK350 := n0_; have HB := n1_; clear n0_ n1_; (try clear hb); (try clear hb2); (try clear hk); (try clear hi)))
      repeat (go_quiet (first | ((with_reducible refine gate_dst (N := 2) rfl ?_); refine box_event ?hg (N := 2) ?hd (cs := #[.int .i64 a0_0, .int .i64 a0_1, .slice A0_2 l0_2.length c0_2, .int .i64 a0_3]) (t := 24) ?hr ?_; (case hd => rfl); (case hg => rfl); (case hr => first | (go_simp; done) | (go_simp; rfl)); intro gb350 hg w7 hbox hb; have n0_ := Aside0.mk (below_step (by repeat (first | (with_reducible first | exact HB.out | apply below_alloc | apply pw_below_drewN | apply below_drew1) | exact HB.out)) hb); have n1_ := Aside0.mk (hbox); have n2_ := Aside0.mk ((by rw [hg]; exact (below_size (by repeat (first | (with_reducible first | exact HB.out | apply below_alloc | apply pw_below_drewN | apply below_drew1) | exact HB.out))) : w.heap.size ≤ gb350)); have n3_ := Aside0.mk ((by rw [hg]; exact (below_size (by repeat (first | (with_reducible first | exact HB.out | apply below_alloc | apply pw_below_drewN | apply below_drew1) | exact HB.out))) : w.heap.size ≤ gb350)); clear HB; have HB := n0_; have BK350 := n1_; have GW350 := n2_; have GE350 := n3_; clear n0_ n1_ n2_ n3_; clear hb hbox hg) | (go_at_call 9; (with_reducible refine (lombardlaw08_alive.calls k  true _ A3.out).mono ?_); rintro e w8 ⟨rfl, hb⟩; have n0_ := Aside0.mk (blk_below (g := gb350) (o := .cells #[.int .i64 a0_0, .int .i64 a0_1, .slice A0_2 l0_2.length c0_2, .int .i64 a0_3] 24 (0, 0)) (by (with_reducible repeat (first | refine blk_drewN ?_ _ | refine blk_drew ?_ | refine blk_alloc ?_ _)); exact BK350.out) hb); have n1_ := Aside0.mk (below_step (by repeat (first | (with_reducible first | exact HB.out | apply below_alloc | apply pw_below_drewN | apply below_drew1 | refine below_set ?_ GE350.out) | exact HB.out)) hb); clear BK350; clear HB; have BK350 := n0_; have HB := n1_; clear n0_ n1_; (try clear hb); (try clear hb2); (try clear hk); (try clear hi); have hcz9_0 : w8.cell? ⟨gb350, 0, none⟩ = some (.int .i64 a0_0) := (blk_cell BK350.out 0).trans rfl; have hcz9_1 : w8.cell? ⟨gb350, 1, none⟩ = some (.int .i64 a0_1) := (blk_cell BK350.out 1).trans rfl; have hcz9_2 : w8.cell? ⟨gb350, 2, none⟩ = some (.slice A0_2 l0_2.length c0_2) := (blk_cell BK350.out 2).trans rfl; have hcz9_3 : w8.cell? ⟨gb350, 3, none⟩ = some (.int .i64 a0_3) := (blk_cell BK350.out 3).trans rfl; have hfz9_0 := blk_frozen BK350.out 0; have hfz9_1 := blk_frozen BK350.out 1; have hfz9_2 := blk_frozen BK350.out 2; have hfz9_3 := blk_frozen BK350.out 3) | (go_at_call 10; (with_reducible refine (lombardlaw08_great.calls a0_0 a0_1 _ _ l0_2 a0_3 true _ ?side1 ?side2 A5.out).mono ?_); (case side1 => repeat (first | exact (Kd.C_below HR0_2.out HB.out) | (with_reducible refine Kd.C_alloc ?_ _) | (with_reducible refine Kd.C_drewN ?_ _) | (with_reducible refine Kd.C_drew ?_))); (case side2 => exact HC0_2.out); rintro e w10 ⟨rfl, hb⟩; have n0_ := Aside0.mk (blk_below (g := gb350) (o := .cells #[.int .i64 a0_0, .int .i64 a0_1, .slice A0_2 l0_2.length c0_2, .int .i64 a0_3] 24 (0, 0)) (by (with_reducible repeat (first | refine blk_drewN ?_ _ | refine blk_drew ?_ | refine blk_alloc ?_ _)); exact BK350.out) hb); have n1_ := Aside0.mk (below_step (by repeat (first | (with_reducible first | exact HB.out | apply below_alloc | apply pw_below_drewN | apply below_drew1 | refine below_set ?_ GE350.out) | exact HB.out)) hb); clear BK350; clear HB; have BK350 := n0_; have HB := n1_; clear n0_ n1_; (try clear hb); (try clear hb2); (try clear hk); (try clear hi))); try go_wp2_with (first | ((with_reducible refine gate_dst (N := 2) rfl ?_); refine box_event ?hg (N := 2) ?hd (cs := #[.int .i64 a0_0, .int .i64 a0_1, .slice A0_2 l0_2.length c0_2, .int .i64 a0_3]) (t := 24) ?hr ?_; (case hd => rfl); (case hg => rfl); (case hr => first | (go_simp; done) | (go_simp; rfl)); intro gb350 hg w7 hbox hb; have n0_ := Aside0.mk (below_step (by repeat (first | (with_reducible first | exact HB.out | apply below_alloc | apply pw_below_drewN | apply below_drew1) | exact HB.out)) hb); have n1_ := Aside0.mk (hbox); have n2_ := Aside0.mk ((by rw [hg]; exact (below_size (by repeat (first | (with_reducible first | exact HB.out | apply below_alloc | apply pw_below_drewN | apply below_drew1) | exact HB.out))) : w.heap.size ≤ gb350)); have n3_ := Aside0.mk ((by rw [hg]; exact (below_size (by repeat (first | (with_reducible first | exact HB.out | apply below_alloc | apply pw_below_drewN | apply below_drew1) | exact HB.out))) : w.heap.size ≤ gb350)); clear HB; have HB := n0_; have BK350 := n1_; have GW350 := n2_; have GE350 := n3_; clear n0_ n1_ n2_ n3_; clear hb hbox hg) | (go_at_call 9; (with_reducible refine (lombardlaw08_alive.calls k  true _ A3.out).mono ?_); rintro e w8 ⟨rfl, hb⟩; have n0_ := Aside0.mk (blk_below (g := gb350) (o := .cells #[.int .i64 a0_0, .int .i64 a0_1, .slice A0_2 l0_2.length c0_2, .int .i64 a0_3] 24 (0, 0)) (by (with_reducible repeat (first | refine blk_drewN ?_ _ | refine blk_drew ?_ | refine blk_alloc ?_ _)); exact BK350.out) hb); have n1_ := Aside0.mk (below_step (by repeat (first | (with_reducible first | exact HB.out | apply below_alloc | apply pw_below_drewN | apply below_drew1 | refine below_set ?_ GE350.out) | exact HB.out)) hb); clear BK350; clear HB; have BK350 := n0_; have HB := n1_; clear n0_ n1_; (try clear hb); (try clear hb2); (try clear hk); (try clear hi); have hcz9_0 : w8.cell? ⟨gb350, 0, none⟩ = some (.int .i64 a0_0) := (blk_cell BK350.out 0).trans rfl; have hcz9_1 : w8.cell? ⟨gb350, 1, none⟩ = some (.int .i64 a0_1) := (blk_cell BK350.out 1).trans rfl; have hcz9_2 : w8.cell? ⟨gb350, 2, none⟩ = some (.slice A0_2 l0_2.length c0_2) := (blk_cell BK350.out 2).trans rfl; have hcz9_3 : w8.cell? ⟨gb350, 3, none⟩ = some (.int .i64 a0_3) := (blk_cell BK350.out 3).trans rfl; have hfz9_0 := blk_frozen BK350.out 0; have hfz9_1 := blk_frozen BK350.out 1; have hfz9_2 := blk_frozen BK350.out 2; have hfz9_3 := blk_frozen BK350.out 3) | (go_at_call 10; (with_reducible refine (lombardlaw08_great.calls a0_0 a0_1 _ _ l0_2 a0_3 true _ ?side1 ?side2 A5.out).mono ?_); (case side1 => repeat (first | exact (Kd.C_below HR0_2.out HB.out) | (with_reducible refine Kd.C_alloc ?_ _) | (with_reducible refine Kd.C_drewN ?_ _) | (with_reducible refine Kd.C_drew ?_))); (case side2 => exact HC0_2.out); rintro e w10 ⟨rfl, hb⟩; have n0_ := Aside0.mk (blk_below (g := gb350) (o := .cells #[.int .i64 a0_0, .int .i64 a0_1, .slice A0_2 l0_2.length c0_2, .int .i64 a0_3] 24 (0, 0)) (by (with_reducible repeat (first | refine blk_drewN ?_ _ | refine blk_drew ?_ | refine blk_alloc ?_ _)); exact BK350.out) hb); have n1_ := Aside0.mk (below_step (by repeat (first | (with_reducible first | exact HB.out | apply below_alloc | apply pw_below_drewN | apply below_drew1 | refine below_set ?_ GE350.out) | exact HB.out)) hb); clear BK350; clear HB; have BK350 := n0_; have HB := n1_; clear n0_ n1_; (try clear hb); (try clear hb2); (try clear hk); (try clear hi))))
      go_ret
      exact ⟨by first | rfl | (simp [errW_none, errW_some] <;> rfl) | (simp [*, errW_none, errW_some] <;> rfl), by repeat (first | (with_reducible first | exact HB.out | apply below_alloc | apply pw_below_drewN | apply below_drew1 | refine below_set ?_ GE350.out) | exact HB.out)⟩
    · replace c6 := Bool.eq_false_iff.mpr c6
      subst c6
      have H1 : ((sched_Build.f k a0_0 a0_1 l0_2 a0_3).bind fun bt353 => (if bt353.2 = 0 then ((sched_Build.f k a0_0 a0_1 (([0] : List Int)) a0_3).bind fun bt361 => (lombardlaw08_SchedRates.l0 k a1 bt353.1 bt361.2 0 bt361.1 (bt361.1.length : Int) 0 a0_0 a0_1 l0_2 a0_3)) else (some true))) = some r := by rw [if_neg (show ¬ (false = true) by decide)] at H; exact H
      clear H
      have H := H1
      clear H1
      replace H := Option.bind_eq_some_iff.mp H
      obtain ⟨⟨t353, t356⟩, A110, H⟩ := H
      replace H : (if t356 = 0 then ((sched_Build.f k a0_0 a0_1 (([0] : List Int)) a0_3).bind fun bt361 => (lombardlaw08_SchedRates.l0 k a1 t353 bt361.2 0 bt361.1 (bt361.1.length : Int) 0 a0_0 a0_1 l0_2 a0_3)) else (some true)) = some r := H
      have A11 := Aside0.mk A110
      clear A110
      by_cases c12 : t356 = 0
      · rw [if_pos c12] at H
        have c12b0 : (t356 == 0) = true := beq_iff_eq.mpr c12
        have c12b1 : (t356 != 0) = false := bne_eq_false_iff_eq.mpr c12
        clear c12
        obtain ⟨y358, hy358⟩ : ∃ y_ : List Int, y_ = (([0] : List Int)) := ⟨_, rfl⟩
        replace H : ((sched_Build.f k a0_0 a0_1 y358 a0_3).bind fun bt361 => (lombardlaw08_SchedRates.l0 k a1 t353 bt361.2 0 bt361.1 (bt361.1.length : Int) 0 a0_0 a0_1 l0_2 a0_3)) = some r := by first | (rw [hy358]; with_reducible exact H) | (have H2_ := (Option.bind_some _ _).symm.trans H; rw [hy358]; with_reducible exact H2_) | (have H2_ := (Option.bind_some _ _).symm.trans H; with_reducible exact H2_) | with_reducible exact H | (rw [hy358]; exact H) | exact H
        have Ny358 := Aside0.mk hy358
        clear hy358
        replace H := Option.bind_eq_some_iff.mp H
        obtain ⟨⟨t361, t364⟩, A130, H⟩ := H
        replace H : (lombardlaw08_SchedRates.l0 k a1 t353 t364 0 t361 (t361.length : Int) 0 a0_0 a0_1 l0_2 a0_3) = some r := H
        have A13 := Aside0.mk A130
        clear A130
        have H' := Aside0.mk H
        clear H
        go_enter Try.func8, Try.ntmps8
        go_wp2_with (first | ((with_reducible refine gate_dst (N := 2) rfl ?_); refine box_event ?hg (N := 2) ?hd (cs := #[.int .i64 a0_0, .int .i64 a0_1, .slice A0_2 l0_2.length c0_2, .int .i64 a0_3]) (t := 24) ?hr ?_; (case hd => rfl); (case hg => rfl); (case hr => first | (go_simp; done) | (go_simp; rfl)); intro gb350 hg w14 hbox hb; have n0_ := Aside0.mk (below_step (by repeat (first | (with_reducible first | exact HB.out | apply below_alloc | apply pw_below_drewN | apply below_drew1) | exact HB.out)) hb); have n1_ := Aside0.mk (hbox); have n2_ := Aside0.mk ((by rw [hg]; exact (below_size (by repeat (first | (with_reducible first | exact HB.out | apply below_alloc | apply pw_below_drewN | apply below_drew1) | exact HB.out))) : w.heap.size ≤ gb350)); have n3_ := Aside0.mk ((by rw [hg]; exact (below_size (by repeat (first | (with_reducible first | exact HB.out | apply below_alloc | apply pw_below_drewN | apply below_drew1) | exact HB.out))) : w.heap.size ≤ gb350)); clear HB; have HB := n0_; have BK350 := n1_; have GW350 := n2_; have GE350 := n3_; clear n0_ n1_ n2_ n3_; clear hb hbox hg) | (go_at_call 9; (with_reducible refine (lombardlaw08_alive.calls k  true _ A3.out).mono ?_); rintro e w15 ⟨rfl, hb⟩; have n0_ := Aside0.mk (blk_below (g := gb350) (o := .cells #[.int .i64 a0_0, .int .i64 a0_1, .slice A0_2 l0_2.length c0_2, .int .i64 a0_3] 24 (0, 0)) (by (with_reducible repeat (first | refine blk_drewN ?_ _ | refine blk_drew ?_ | refine blk_alloc ?_ _)); exact BK350.out) hb); have n1_ := Aside0.mk (below_step (by repeat (first | (with_reducible first | exact HB.out | apply below_alloc | apply pw_below_drewN | apply below_drew1 | refine below_set ?_ GE350.out) | exact HB.out)) hb); clear BK350; clear HB; have BK350 := n0_; have HB := n1_; clear n0_ n1_; (try clear hb); (try clear hb2); (try clear hk); (try clear hi); have hcz16_0 : w15.cell? ⟨gb350, 0, none⟩ = some (.int .i64 a0_0) := (blk_cell BK350.out 0).trans rfl; have hcz16_1 : w15.cell? ⟨gb350, 1, none⟩ = some (.int .i64 a0_1) := (blk_cell BK350.out 1).trans rfl; have hcz16_2 : w15.cell? ⟨gb350, 2, none⟩ = some (.slice A0_2 l0_2.length c0_2) := (blk_cell BK350.out 2).trans rfl; have hcz16_3 : w15.cell? ⟨gb350, 3, none⟩ = some (.int .i64 a0_3) := (blk_cell BK350.out 3).trans rfl; have hfz16_0 := blk_frozen BK350.out 0; have hfz16_1 := blk_frozen BK350.out 1; have hfz16_2 := blk_frozen BK350.out 2; have hfz16_3 := blk_frozen BK350.out 3) | (go_at_call 10; (with_reducible refine (lombardlaw08_great.calls a0_0 a0_1 _ _ l0_2 a0_3 false _ ?side1 ?side2 A5.out).mono ?_); (case side1 => repeat (first | exact (Kd.C_below HR0_2.out HB.out) | (with_reducible refine Kd.C_alloc ?_ _) | (with_reducible refine Kd.C_drewN ?_ _) | (with_reducible refine Kd.C_drew ?_))); (case side2 => exact HC0_2.out); rintro e w17 ⟨rfl, hb⟩; have n0_ := Aside0.mk (blk_below (g := gb350) (o := .cells #[.int .i64 a0_0, .int .i64 a0_1, .slice A0_2 l0_2.length c0_2, .int .i64 a0_3] 24 (0, 0)) (by (with_reducible repeat (first | refine blk_drewN ?_ _ | refine blk_drew ?_ | refine blk_alloc ?_ _)); exact BK350.out) hb); have n1_ := Aside0.mk (below_step (by repeat (first | (with_reducible first | exact HB.out | apply below_alloc | apply pw_below_drewN | apply below_drew1 | refine below_set ?_ GE350.out) | exact HB.out)) hb); clear BK350; clear HB; have BK350 := n0_; have HB := n1_; clear n0_ n1_; (try clear hb); (try clear hb2); (try clear hk); (try clear hi); have hcz18_0 : w17.cell? ⟨gb350, 0, none⟩ = some (.int .i64 a0_0) := (blk_cell BK350.out 0).trans rfl; have hcz18_1 : w17.cell? ⟨gb350, 1, none⟩ = some (.int .i64 a0_1) := (blk_cell BK350.out 1).trans rfl; have hcz18_2 : w17.cell? ⟨gb350, 2, none⟩ = some (.slice A0_2 l0_2.length c0_2) := (blk_cell BK350.out 2).trans rfl; have hcz18_3 : w17.cell? ⟨gb350, 3, none⟩ = some (.int .i64 a0_3) := (blk_cell BK350.out 3).trans rfl; have hfz18_0 := blk_frozen BK350.out 0; have hfz18_1 := blk_frozen BK350.out 1; have hfz18_2 := blk_frozen BK350.out 2; have hfz18_3 := blk_frozen BK350.out 3) | (go_at_call 11; (with_reducible refine (sched_Build.calls k a0_0 a0_1 _ _ l0_2 a0_3 t353 t356 _ ?side1 ?side2 A11.out).mono ?_); (case side1 => repeat (first | exact (Kd.C_below HR0_2.out HB.out) | (with_reducible refine Kd.C_alloc ?_ _) | (with_reducible refine Kd.C_drewN ?_ _) | (with_reducible refine Kd.C_drew ?_))); (case side2 => exact HC0_2.out); rintro e w19 ⟨v354, rfl, ho0, hb⟩; have n0_ := Aside0.mk (Kd.R_lower ho0 (below_size (by repeat (first | (with_reducible first | exact HB.out | apply below_alloc | apply pw_below_drewN | apply below_drew1 | refine below_set ?_ GE350.out) | exact HB.out)))); have n1_ := Aside0.mk (blk_below (g := gb350) (o := .cells #[.int .i64 a0_0, .int .i64 a0_1, .slice A0_2 l0_2.length c0_2, .int .i64 a0_3] 24 (0, 0)) (by (with_reducible repeat (first | refine blk_drewN ?_ _ | refine blk_drew ?_ | refine blk_alloc ?_ _)); exact BK350.out) hb); have n2_ := Aside0.mk (below_step (by repeat (first | (with_reducible first | exact HB.out | apply below_alloc | apply pw_below_drewN | apply below_drew1 | refine below_set ?_ GE350.out) | exact HB.out)) hb); clear BK350; clear HB; have HO355 := n0_; have BK350 := n1_; have HB := n2_; clear n0_ n1_ n2_; (try clear hb); (try clear hb2); (try clear hk); (try clear hi); (try clear ho0); have hcz20_0 : w19.cell? ⟨gb350, 0, none⟩ = some (.int .i64 a0_0) := (blk_cell BK350.out 0).trans rfl; have hcz20_1 : w19.cell? ⟨gb350, 1, none⟩ = some (.int .i64 a0_1) := (blk_cell BK350.out 1).trans rfl; have hcz20_2 : w19.cell? ⟨gb350, 2, none⟩ = some (.slice A0_2 l0_2.length c0_2) := (blk_cell BK350.out 2).trans rfl; have hcz20_3 : w19.cell? ⟨gb350, 3, none⟩ = some (.int .i64 a0_3) := (blk_cell BK350.out 3).trans rfl; have hfz20_0 := blk_frozen BK350.out 0; have hfz20_1 := blk_frozen BK350.out 1; have hfz20_2 := blk_frozen BK350.out 2; have hfz20_3 := blk_frozen BK350.out 3) | ((with_reducible refine gate_dst (N := 7) rfl ?_); refine box_event ?hg (N := 7) ?hd (cs := #[.int .i64 0, .int .i64 0, .slice none 0 0, .int .i64 0]) (t := 24) ?hr ?_; (case hd => rfl); (case hg => rfl); (case hr => first | (go_simp; done) | (go_simp; rfl)); intro gb357 hg w21 hbox hb; have n0_ := Aside0.mk (Kd.R_below (by (with_reducible repeat (first | apply Kd.R_alloc | apply Kd.R_drewN | apply Kd.R_drew)); exact HO355.out) hb); have n1_ := Aside0.mk (blk_below (g := gb350) (o := .cells #[.int .i64 a0_0, .int .i64 a0_1, .slice A0_2 l0_2.length c0_2, .int .i64 a0_3] 24 (0, 0)) (by (with_reducible repeat (first | refine blk_drewN ?_ _ | refine blk_drew ?_ | refine blk_alloc ?_ _)); exact BK350.out) hb); have n2_ := Aside0.mk (below_step (by repeat (first | (with_reducible first | exact HB.out | apply below_alloc | apply pw_below_drewN | apply below_drew1 | refine below_set ?_ GE350.out) | exact HB.out)) hb); have n3_ := Aside0.mk (hbox); have n4_ := Aside0.mk ((by rw [hg]; exact (below_size (by repeat (first | (with_reducible first | exact HB.out | apply below_alloc | apply pw_below_drewN | apply below_drew1 | refine below_set ?_ GE350.out) | exact HB.out))) : w.heap.size ≤ gb357)); have n5_ := Aside0.mk ((by rw [hg]; exact (below_size (by repeat (first | (with_reducible first | exact HB.out | apply below_alloc | apply pw_below_drewN | apply below_drew1 | refine below_set ?_ GE350.out) | exact HB.out))) : w.heap.size ≤ gb357)); have n6_ := Aside0.mk ((by rw [hg]; exact Nat.ne_of_lt (blk_lt (g := gb350) (o := .cells #[.int .i64 a0_0, .int .i64 a0_1, .slice A0_2 l0_2.length c0_2, .int .i64 a0_3] 24 (0, 0)) (by (with_reducible repeat (first | refine blk_drewN ?_ _ | refine blk_drew ?_ | refine blk_alloc ?_ _)); exact BK350.out)) : gb350 ≠ gb357)); have n7_ := Aside0.mk ((by rw [hg]; exact Nat.ne_of_gt (blk_lt (g := gb350) (o := .cells #[.int .i64 a0_0, .int .i64 a0_1, .slice A0_2 l0_2.length c0_2, .int .i64 a0_3] 24 (0, 0)) (by (with_reducible repeat (first | refine blk_drewN ?_ _ | refine blk_drew ?_ | refine blk_alloc ?_ _)); exact BK350.out)) : gb357 ≠ gb350)); clear HO355; clear BK350; clear HB; have HO355 := n0_; have BK350 := n1_; have HB := n2_; have BK357 := n3_; have GW357 := n4_; have GE357 := n5_; have NB350_357 := n6_; have NB357_350 := n7_; clear n0_ n1_ n2_ n3_ n4_ n5_ n6_ n7_; clear hb hbox hg; have hnb22 := NB357_350.out; have hnc22 := NB350_357.out; have hcz23_0 : w21.cell? ⟨gb357, 0, none⟩ = some (.int .i64 0) := (blk_cell BK357.out 0).trans rfl; have hcz23_1 : w21.cell? ⟨gb357, 1, none⟩ = some (.int .i64 0) := (blk_cell BK357.out 1).trans rfl; have hcz23_2 : w21.cell? ⟨gb357, 2, none⟩ = some (.slice none 0 0) := (blk_cell BK357.out 2).trans rfl; have hcz23_3 : w21.cell? ⟨gb357, 3, none⟩ = some (.int .i64 0) := (blk_cell BK357.out 3).trans rfl; have hfz23_0 := blk_frozen BK357.out 0; have hfz23_1 := blk_frozen BK357.out 1; have hfz23_2 := blk_frozen BK357.out 2; have hfz23_3 := blk_frozen BK357.out 3) | ((with_reducible refine gate_dst (N := 31) rfl ?_); refine Kd.R_lit (Kd.int .i64) _ 2 ?hg (N := 31) ?hd (xs := ([0] : List Int)) (inner := [.int .i64 0]) (ok := fun _ => True) (okp := fun _ => True) ?hr ?hp (fun _ hk => hk) trivial (Below.refl _ _) (Nat.le_refl _) (by simp) ?_; (case hd => rfl); (case hg => rfl); (case hr => first | (go_simp; done) | (go_simp; rfl)); (case hp => exact (Reps.one (show Kd.M (Kd.int .i64) _ _ _ 0 [.int .i64 0] from rfl) (Reps.none _ _))); intro v359 w24 ho25 hb hg_ hnew_; clear hg_ hnew_; (first | rw [← Ny358.out] at ho25 | (simp only [Int.reduceToNat] at ho25; rw [← Ny358.out] at ho25)); have n0_ := Aside0.mk (Kd.R_below (by (with_reducible repeat (first | apply Kd.R_alloc | apply Kd.R_drewN | apply Kd.R_drew)); exact (Kd.R_mono (Kd.R_far (p := ⟨gb357, 3, none⟩) (Kd.R_far (p := ⟨gb357, 2, none⟩) (Kd.R_far (p := ⟨gb357, 1, none⟩) (Kd.R_far (p := ⟨gb357, 0, none⟩) (Kd.R_types HO355.out BK357.out (by decide)) (fun _ hk => hk.2) (.int .i64 a0_0)) (fun _ hk => hk.2) (.int .i64 a0_1)) (fun _ hk => hk.2) (.slice A0_2 l0_2.length c0_2)) (fun _ hk => hk.2) (.int .i64 a0_3)) (fun _ h_ => h_.1))) hb); have n1_ := Aside0.mk (Kd.R_lower ho25 (below_size (by repeat (first | (with_reducible first | exact HB.out | apply below_alloc | apply pw_below_drewN | apply below_drew1 | refine below_set ?_ GE350.out | refine below_set ?_ GE357.out) | exact HB.out)))); have n2_ := Aside0.mk (blk_below (g := gb350) (o := .cells #[.int .i64 a0_0, .int .i64 a0_1, .slice A0_2 l0_2.length c0_2, .int .i64 a0_3] 24 (0, 0)) (by (with_reducible repeat (first | refine blk_drewN ?_ _ | refine blk_drew ?_ | refine blk_alloc ?_ _)); refine blk_far ?_ NB350_357.out _; (with_reducible repeat (first | refine blk_drewN ?_ _ | refine blk_drew ?_ | refine blk_alloc ?_ _)); refine blk_far ?_ NB350_357.out _; (with_reducible repeat (first | refine blk_drewN ?_ _ | refine blk_drew ?_ | refine blk_alloc ?_ _)); refine blk_far ?_ NB350_357.out _; (with_reducible repeat (first | refine blk_drewN ?_ _ | refine blk_drew ?_ | refine blk_alloc ?_ _)); refine blk_far ?_ NB350_357.out _; (with_reducible repeat (first | refine blk_drewN ?_ _ | refine blk_drew ?_ | refine blk_alloc ?_ _)); exact BK350.out) hb); have n3_ := Aside0.mk (blk_below (g := gb357) (o := .cells #[.int .i64 a0_0, .int .i64 a0_1, .slice A0_2 l0_2.length c0_2, .int .i64 a0_3] 24 (0, 0)) (by (with_reducible repeat (first | refine blk_drewN ?_ _ | refine blk_drew ?_ | refine blk_alloc ?_ _)); refine blk_put (cs := #[.int .i64 a0_0, .int .i64 a0_1, .slice A0_2 l0_2.length c0_2, .int .i64 0]) ?_ 3 _ rfl; (with_reducible repeat (first | refine blk_drewN ?_ _ | refine blk_drew ?_ | refine blk_alloc ?_ _)); refine blk_put (cs := #[.int .i64 a0_0, .int .i64 a0_1, .slice none 0 0, .int .i64 0]) ?_ 2 _ rfl; (with_reducible repeat (first | refine blk_drewN ?_ _ | refine blk_drew ?_ | refine blk_alloc ?_ _)); refine blk_put (cs := #[.int .i64 a0_0, .int .i64 0, .slice none 0 0, .int .i64 0]) ?_ 1 _ rfl; (with_reducible repeat (first | refine blk_drewN ?_ _ | refine blk_drew ?_ | refine blk_alloc ?_ _)); refine blk_put (cs := #[.int .i64 0, .int .i64 0, .slice none 0 0, .int .i64 0]) ?_ 0 _ rfl; (with_reducible repeat (first | refine blk_drewN ?_ _ | refine blk_drew ?_ | refine blk_alloc ?_ _)); exact BK357.out) hb); have n4_ := Aside0.mk (below_step (by repeat (first | (with_reducible first | exact HB.out | apply below_alloc | apply pw_below_drewN | apply below_drew1 | refine below_set ?_ GE350.out | refine below_set ?_ GE357.out) | exact HB.out)) hb); clear HO355; clear BK350; clear BK357; clear HB; have HO355 := n0_; have HO360 := n1_; have BK350 := n2_; have BK357 := n3_; have HB := n4_; clear n0_ n1_ n2_ n3_ n4_; clear hb ho25; obtain ⟨Ao26, co26, eo26⟩ := Kd.R_slice HO360.out; subst eo26; have hcz27_0 : w24.cell? ⟨gb357, 0, none⟩ = some (.int .i64 a0_0) := (blk_cell BK357.out 0).trans rfl; have hcz27_1 : w24.cell? ⟨gb357, 1, none⟩ = some (.int .i64 a0_1) := (blk_cell BK357.out 1).trans rfl; have hcz27_2 : w24.cell? ⟨gb357, 2, none⟩ = some (.slice A0_2 l0_2.length c0_2) := (blk_cell BK357.out 2).trans rfl; have hcz27_3 : w24.cell? ⟨gb357, 3, none⟩ = some (.int .i64 a0_3) := (blk_cell BK357.out 3).trans rfl; have hfz27_0 := blk_frozen BK357.out 0; have hfz27_1 := blk_frozen BK357.out 1; have hfz27_2 := blk_frozen BK357.out 2; have hfz27_3 := blk_frozen BK357.out 3) | (go_at_call 11; (with_reducible refine (sched_Build.calls k a0_0 a0_1 _ _ y358 a0_3 t361 t364 _ ?side1 ?side2 A13.out).mono ?_); (case side1 => refine (Kd.R_reads' (e := 2) (base := w.heap.size) (ok := fun k_ => True) (n := y358.length) (c := co26) ?_).2.2; exact (by (with_reducible repeat (first | apply Kd.R_alloc | apply Kd.R_drewN | apply Kd.R_drew)); exact (Kd.R_mono (Kd.R_far (p := ⟨gb357, 2, none⟩) (Kd.R_types HO360.out BK357.out (by decide)) (fun _ hk => hk.2) (.slice Ao26 y358.length co26)) (fun _ h_ => h_.1)))); (case side2 => exact (Kd.R_reads' HO360.out).2.1); rintro e w28 ⟨v362, rfl, ho0, hb⟩; have n0_ := Aside0.mk (Kd.R_elder' (by (with_reducible repeat (first | apply Kd.R_alloc | apply Kd.R_drewN | apply Kd.R_drew)); exact (Kd.R_mono (Kd.R_far (p := ⟨gb357, 2, none⟩) (Kd.R_types HO355.out BK357.out (by decide)) (fun _ hk => hk.2) (.slice Ao26 y358.length co26)) (fun _ h_ => h_.1))) (Kd.R_base ho0) hb); have n1_ := Aside0.mk (Kd.R_below (by (with_reducible repeat (first | apply Kd.R_alloc | apply Kd.R_drewN | apply Kd.R_drew)); exact (Kd.R_mono (Kd.R_far (p := ⟨gb357, 2, none⟩) (Kd.R_types HO360.out BK357.out (by decide)) (fun _ hk => hk.2) (.slice Ao26 y358.length co26)) (fun _ h_ => h_.1))) hb); have n2_ := Aside0.mk (Kd.R_lower (Kd.R_new' ho0 (Kd.R_lt (by (with_reducible repeat (first | apply Kd.R_alloc | apply Kd.R_drewN | apply Kd.R_drew)); exact (Kd.R_mono (Kd.R_far (p := ⟨gb357, 2, none⟩) (Kd.R_types HO355.out BK357.out (by decide)) (fun _ hk => hk.2) (.slice Ao26 y358.length co26)) (fun _ h_ => h_.1))))) (below_size (by repeat (first | (with_reducible first | exact HB.out | apply below_alloc | apply pw_below_drewN | apply below_drew1 | refine below_set ?_ GE350.out | refine below_set ?_ GE357.out) | exact HB.out)))); have n3_ := Aside0.mk (blk_below (g := gb350) (o := .cells #[.int .i64 a0_0, .int .i64 a0_1, .slice A0_2 l0_2.length c0_2, .int .i64 a0_3] 24 (0, 0)) (by (with_reducible repeat (first | refine blk_drewN ?_ _ | refine blk_drew ?_ | refine blk_alloc ?_ _)); refine blk_far ?_ NB350_357.out _; (with_reducible repeat (first | refine blk_drewN ?_ _ | refine blk_drew ?_ | refine blk_alloc ?_ _)); exact BK350.out) hb); have n4_ := Aside0.mk (blk_below (g := gb357) (o := .cells #[.int .i64 a0_0, .int .i64 a0_1, .slice Ao26 y358.length co26, .int .i64 a0_3] 24 (0, 0)) (by (with_reducible repeat (first | refine blk_drewN ?_ _ | refine blk_drew ?_ | refine blk_alloc ?_ _)); refine blk_put (cs := #[.int .i64 a0_0, .int .i64 a0_1, .slice A0_2 l0_2.length c0_2, .int .i64 a0_3]) ?_ 2 _ rfl; (with_reducible repeat (first | refine blk_drewN ?_ _ | refine blk_drew ?_ | refine blk_alloc ?_ _)); exact BK357.out) hb); have n5_ := Aside0.mk (below_step (by repeat (first | (with_reducible first | exact HB.out | apply below_alloc | apply pw_below_drewN | apply below_drew1 | refine below_set ?_ GE350.out | refine below_set ?_ GE357.out) | exact HB.out)) hb); clear HO355; clear HO360; clear BK350; clear BK357; clear HB; have HO355 := n0_; have HO360 := n1_; have HO363 := n2_; have BK350 := n3_; have BK357 := n4_; have HB := n5_; clear n0_ n1_ n2_ n3_ n4_ n5_; (try clear hb); (try clear hb2); (try clear hk); (try clear hi); (try clear ho0); obtain ⟨Ao29, co29, eo29⟩ := Kd.R_slice HO363.out; subst eo29))
        repeat (go_quiet (first | ((with_reducible refine gate_dst (N := 2) rfl ?_); refine box_event ?hg (N := 2) ?hd (cs := #[.int .i64 a0_0, .int .i64 a0_1, .slice A0_2 l0_2.length c0_2, .int .i64 a0_3]) (t := 24) ?hr ?_; (case hd => rfl); (case hg => rfl); (case hr => first | (go_simp; done) | (go_simp; rfl)); intro gb350 hg w14 hbox hb; have n0_ := Aside0.mk (below_step (by repeat (first | (with_reducible first | exact HB.out | apply below_alloc | apply pw_below_drewN | apply below_drew1) | exact HB.out)) hb); have n1_ := Aside0.mk (hbox); have n2_ := Aside0.mk ((by rw [hg]; exact (below_size (by repeat (first | (with_reducible first | exact HB.out | apply below_alloc | apply pw_below_drewN | apply below_drew1) | exact HB.out))) : w.heap.size ≤ gb350)); have n3_ := Aside0.mk ((by rw [hg]; exact (below_size (by repeat (first | (with_reducible first | exact HB.out | apply below_alloc | apply pw_below_drewN | apply below_drew1) | exact HB.out))) : w.heap.size ≤ gb350)); clear HB; have HB := n0_; have BK350 := n1_; have GW350 := n2_; have GE350 := n3_; clear n0_ n1_ n2_ n3_; clear hb hbox hg) | (go_at_call 9; (with_reducible refine (lombardlaw08_alive.calls k  true _ A3.out).mono ?_); rintro e w15 ⟨rfl, hb⟩; have n0_ := Aside0.mk (blk_below (g := gb350) (o := .cells #[.int .i64 a0_0, .int .i64 a0_1, .slice A0_2 l0_2.length c0_2, .int .i64 a0_3] 24 (0, 0)) (by (with_reducible repeat (first | refine blk_drewN ?_ _ | refine blk_drew ?_ | refine blk_alloc ?_ _)); exact BK350.out) hb); have n1_ := Aside0.mk (below_step (by repeat (first | (with_reducible first | exact HB.out | apply below_alloc | apply pw_below_drewN | apply below_drew1 | refine below_set ?_ GE350.out) | exact HB.out)) hb); clear BK350; clear HB; have BK350 := n0_; have HB := n1_; clear n0_ n1_; (try clear hb); (try clear hb2); (try clear hk); (try clear hi); have hcz16_0 : w15.cell? ⟨gb350, 0, none⟩ = some (.int .i64 a0_0) := (blk_cell BK350.out 0).trans rfl; have hcz16_1 : w15.cell? ⟨gb350, 1, none⟩ = some (.int .i64 a0_1) := (blk_cell BK350.out 1).trans rfl; have hcz16_2 : w15.cell? ⟨gb350, 2, none⟩ = some (.slice A0_2 l0_2.length c0_2) := (blk_cell BK350.out 2).trans rfl; have hcz16_3 : w15.cell? ⟨gb350, 3, none⟩ = some (.int .i64 a0_3) := (blk_cell BK350.out 3).trans rfl; have hfz16_0 := blk_frozen BK350.out 0; have hfz16_1 := blk_frozen BK350.out 1; have hfz16_2 := blk_frozen BK350.out 2; have hfz16_3 := blk_frozen BK350.out 3) | (go_at_call 10; (with_reducible refine (lombardlaw08_great.calls a0_0 a0_1 _ _ l0_2 a0_3 false _ ?side1 ?side2 A5.out).mono ?_); (case side1 => repeat (first | exact (Kd.C_below HR0_2.out HB.out) | (with_reducible refine Kd.C_alloc ?_ _) | (with_reducible refine Kd.C_drewN ?_ _) | (with_reducible refine Kd.C_drew ?_))); (case side2 => exact HC0_2.out); rintro e w17 ⟨rfl, hb⟩; have n0_ := Aside0.mk (blk_below (g := gb350) (o := .cells #[.int .i64 a0_0, .int .i64 a0_1, .slice A0_2 l0_2.length c0_2, .int .i64 a0_3] 24 (0, 0)) (by (with_reducible repeat (first | refine blk_drewN ?_ _ | refine blk_drew ?_ | refine blk_alloc ?_ _)); exact BK350.out) hb); have n1_ := Aside0.mk (below_step (by repeat (first | (with_reducible first | exact HB.out | apply below_alloc | apply pw_below_drewN | apply below_drew1 | refine below_set ?_ GE350.out) | exact HB.out)) hb); clear BK350; clear HB; have BK350 := n0_; have HB := n1_; clear n0_ n1_; (try clear hb); (try clear hb2); (try clear hk); (try clear hi); have hcz18_0 : w17.cell? ⟨gb350, 0, none⟩ = some (.int .i64 a0_0) := (blk_cell BK350.out 0).trans rfl; have hcz18_1 : w17.cell? ⟨gb350, 1, none⟩ = some (.int .i64 a0_1) := (blk_cell BK350.out 1).trans rfl; have hcz18_2 : w17.cell? ⟨gb350, 2, none⟩ = some (.slice A0_2 l0_2.length c0_2) := (blk_cell BK350.out 2).trans rfl; have hcz18_3 : w17.cell? ⟨gb350, 3, none⟩ = some (.int .i64 a0_3) := (blk_cell BK350.out 3).trans rfl; have hfz18_0 := blk_frozen BK350.out 0; have hfz18_1 := blk_frozen BK350.out 1; have hfz18_2 := blk_frozen BK350.out 2; have hfz18_3 := blk_frozen BK350.out 3) | (go_at_call 11; (with_reducible refine (sched_Build.calls k a0_0 a0_1 _ _ l0_2 a0_3 t353 t356 _ ?side1 ?side2 A11.out).mono ?_); (case side1 => repeat (first | exact (Kd.C_below HR0_2.out HB.out) | (with_reducible refine Kd.C_alloc ?_ _) | (with_reducible refine Kd.C_drewN ?_ _) | (with_reducible refine Kd.C_drew ?_))); (case side2 => exact HC0_2.out); rintro e w19 ⟨v354, rfl, ho0, hb⟩; have n0_ := Aside0.mk (Kd.R_lower ho0 (below_size (by repeat (first | (with_reducible first | exact HB.out | apply below_alloc | apply pw_below_drewN | apply below_drew1 | refine below_set ?_ GE350.out) | exact HB.out)))); have n1_ := Aside0.mk (blk_below (g := gb350) (o := .cells #[.int .i64 a0_0, .int .i64 a0_1, .slice A0_2 l0_2.length c0_2, .int .i64 a0_3] 24 (0, 0)) (by (with_reducible repeat (first | refine blk_drewN ?_ _ | refine blk_drew ?_ | refine blk_alloc ?_ _)); exact BK350.out) hb); have n2_ := Aside0.mk (below_step (by repeat (first | (with_reducible first | exact HB.out | apply below_alloc | apply pw_below_drewN | apply below_drew1 | refine below_set ?_ GE350.out) | exact HB.out)) hb); clear BK350; clear HB; have HO355 := n0_; have BK350 := n1_; have HB := n2_; clear n0_ n1_ n2_; (try clear hb); (try clear hb2); (try clear hk); (try clear hi); (try clear ho0); have hcz20_0 : w19.cell? ⟨gb350, 0, none⟩ = some (.int .i64 a0_0) := (blk_cell BK350.out 0).trans rfl; have hcz20_1 : w19.cell? ⟨gb350, 1, none⟩ = some (.int .i64 a0_1) := (blk_cell BK350.out 1).trans rfl; have hcz20_2 : w19.cell? ⟨gb350, 2, none⟩ = some (.slice A0_2 l0_2.length c0_2) := (blk_cell BK350.out 2).trans rfl; have hcz20_3 : w19.cell? ⟨gb350, 3, none⟩ = some (.int .i64 a0_3) := (blk_cell BK350.out 3).trans rfl; have hfz20_0 := blk_frozen BK350.out 0; have hfz20_1 := blk_frozen BK350.out 1; have hfz20_2 := blk_frozen BK350.out 2; have hfz20_3 := blk_frozen BK350.out 3) | ((with_reducible refine gate_dst (N := 7) rfl ?_); refine box_event ?hg (N := 7) ?hd (cs := #[.int .i64 0, .int .i64 0, .slice none 0 0, .int .i64 0]) (t := 24) ?hr ?_; (case hd => rfl); (case hg => rfl); (case hr => first | (go_simp; done) | (go_simp; rfl)); intro gb357 hg w21 hbox hb; have n0_ := Aside0.mk (Kd.R_below (by (with_reducible repeat (first | apply Kd.R_alloc | apply Kd.R_drewN | apply Kd.R_drew)); exact HO355.out) hb); have n1_ := Aside0.mk (blk_below (g := gb350) (o := .cells #[.int .i64 a0_0, .int .i64 a0_1, .slice A0_2 l0_2.length c0_2, .int .i64 a0_3] 24 (0, 0)) (by (with_reducible repeat (first | refine blk_drewN ?_ _ | refine blk_drew ?_ | refine blk_alloc ?_ _)); exact BK350.out) hb); have n2_ := Aside0.mk (below_step (by repeat (first | (with_reducible first | exact HB.out | apply below_alloc | apply pw_below_drewN | apply below_drew1 | refine below_set ?_ GE350.out) | exact HB.out)) hb); have n3_ := Aside0.mk (hbox); have n4_ := Aside0.mk ((by rw [hg]; exact (below_size (by repeat (first | (with_reducible first | exact HB.out | apply below_alloc | apply pw_below_drewN | apply below_drew1 | refine below_set ?_ GE350.out) | exact HB.out))) : w.heap.size ≤ gb357)); have n5_ := Aside0.mk ((by rw [hg]; exact (below_size (by repeat (first | (with_reducible first | exact HB.out | apply below_alloc | apply pw_below_drewN | apply below_drew1 | refine below_set ?_ GE350.out) | exact HB.out))) : w.heap.size ≤ gb357)); have n6_ := Aside0.mk ((by rw [hg]; exact Nat.ne_of_lt (blk_lt (g := gb350) (o := .cells #[.int .i64 a0_0, .int .i64 a0_1, .slice A0_2 l0_2.length c0_2, .int .i64 a0_3] 24 (0, 0)) (by (with_reducible repeat (first | refine blk_drewN ?_ _ | refine blk_drew ?_ | refine blk_alloc ?_ _)); exact BK350.out)) : gb350 ≠ gb357)); have n7_ := Aside0.mk ((by rw [hg]; exact Nat.ne_of_gt (blk_lt (g := gb350) (o := .cells #[.int .i64 a0_0, .int .i64 a0_1, .slice A0_2 l0_2.length c0_2, .int .i64 a0_3] 24 (0, 0)) (by (with_reducible repeat (first | refine blk_drewN ?_ _ | refine blk_drew ?_ | refine blk_alloc ?_ _)); exact BK350.out)) : gb357 ≠ gb350)); clear HO355; clear BK350; clear HB; have HO355 := n0_; have BK350 := n1_; have HB := n2_; have BK357 := n3_; have GW357 := n4_; have GE357 := n5_; have NB350_357 := n6_; have NB357_350 := n7_; clear n0_ n1_ n2_ n3_ n4_ n5_ n6_ n7_; clear hb hbox hg; have hnb22 := NB357_350.out; have hnc22 := NB350_357.out; have hcz23_0 : w21.cell? ⟨gb357, 0, none⟩ = some (.int .i64 0) := (blk_cell BK357.out 0).trans rfl; have hcz23_1 : w21.cell? ⟨gb357, 1, none⟩ = some (.int .i64 0) := (blk_cell BK357.out 1).trans rfl; have hcz23_2 : w21.cell? ⟨gb357, 2, none⟩ = some (.slice none 0 0) := (blk_cell BK357.out 2).trans rfl; have hcz23_3 : w21.cell? ⟨gb357, 3, none⟩ = some (.int .i64 0) := (blk_cell BK357.out 3).trans rfl; have hfz23_0 := blk_frozen BK357.out 0; have hfz23_1 := blk_frozen BK357.out 1; have hfz23_2 := blk_frozen BK357.out 2; have hfz23_3 := blk_frozen BK357.out 3) | ((with_reducible refine gate_dst (N := 31) rfl ?_); refine Kd.R_lit (Kd.int .i64) _ 2 ?hg (N := 31) ?hd (xs := ([0] : List Int)) (inner := [.int .i64 0]) (ok := fun _ => True) (okp := fun _ => True) ?hr ?hp (fun _ hk => hk) trivial (Below.refl _ _) (Nat.le_refl _) (by simp) ?_; (case hd => rfl); (case hg => rfl); (case hr => first | (go_simp; done) | (go_simp; rfl)); (case hp => exact (Reps.one (show Kd.M (Kd.int .i64) _ _ _ 0 [.int .i64 0] from rfl) (Reps.none _ _))); intro v359 w24 ho25 hb hg_ hnew_; clear hg_ hnew_; (first | rw [← Ny358.out] at ho25 | (simp only [Int.reduceToNat] at ho25; rw [← Ny358.out] at ho25)); have n0_ := Aside0.mk (Kd.R_below (by (with_reducible repeat (first | apply Kd.R_alloc | apply Kd.R_drewN | apply Kd.R_drew)); exact (Kd.R_mono (Kd.R_far (p := ⟨gb357, 3, none⟩) (Kd.R_far (p := ⟨gb357, 2, none⟩) (Kd.R_far (p := ⟨gb357, 1, none⟩) (Kd.R_far (p := ⟨gb357, 0, none⟩) (Kd.R_types HO355.out BK357.out (by decide)) (fun _ hk => hk.2) (.int .i64 a0_0)) (fun _ hk => hk.2) (.int .i64 a0_1)) (fun _ hk => hk.2) (.slice A0_2 l0_2.length c0_2)) (fun _ hk => hk.2) (.int .i64 a0_3)) (fun _ h_ => h_.1))) hb); have n1_ := Aside0.mk (Kd.R_lower ho25 (below_size (by repeat (first | (with_reducible first | exact HB.out | apply below_alloc | apply pw_below_drewN | apply below_drew1 | refine below_set ?_ GE350.out | refine below_set ?_ GE357.out) | exact HB.out)))); have n2_ := Aside0.mk (blk_below (g := gb350) (o := .cells #[.int .i64 a0_0, .int .i64 a0_1, .slice A0_2 l0_2.length c0_2, .int .i64 a0_3] 24 (0, 0)) (by (with_reducible repeat (first | refine blk_drewN ?_ _ | refine blk_drew ?_ | refine blk_alloc ?_ _)); refine blk_far ?_ NB350_357.out _; (with_reducible repeat (first | refine blk_drewN ?_ _ | refine blk_drew ?_ | refine blk_alloc ?_ _)); refine blk_far ?_ NB350_357.out _; (with_reducible repeat (first | refine blk_drewN ?_ _ | refine blk_drew ?_ | refine blk_alloc ?_ _)); refine blk_far ?_ NB350_357.out _; (with_reducible repeat (first | refine blk_drewN ?_ _ | refine blk_drew ?_ | refine blk_alloc ?_ _)); refine blk_far ?_ NB350_357.out _; (with_reducible repeat (first | refine blk_drewN ?_ _ | refine blk_drew ?_ | refine blk_alloc ?_ _)); exact BK350.out) hb); have n3_ := Aside0.mk (blk_below (g := gb357) (o := .cells #[.int .i64 a0_0, .int .i64 a0_1, .slice A0_2 l0_2.length c0_2, .int .i64 a0_3] 24 (0, 0)) (by (with_reducible repeat (first | refine blk_drewN ?_ _ | refine blk_drew ?_ | refine blk_alloc ?_ _)); refine blk_put (cs := #[.int .i64 a0_0, .int .i64 a0_1, .slice A0_2 l0_2.length c0_2, .int .i64 0]) ?_ 3 _ rfl; (with_reducible repeat (first | refine blk_drewN ?_ _ | refine blk_drew ?_ | refine blk_alloc ?_ _)); refine blk_put (cs := #[.int .i64 a0_0, .int .i64 a0_1, .slice none 0 0, .int .i64 0]) ?_ 2 _ rfl; (with_reducible repeat (first | refine blk_drewN ?_ _ | refine blk_drew ?_ | refine blk_alloc ?_ _)); refine blk_put (cs := #[.int .i64 a0_0, .int .i64 0, .slice none 0 0, .int .i64 0]) ?_ 1 _ rfl; (with_reducible repeat (first | refine blk_drewN ?_ _ | refine blk_drew ?_ | refine blk_alloc ?_ _)); refine blk_put (cs := #[.int .i64 0, .int .i64 0, .slice none 0 0, .int .i64 0]) ?_ 0 _ rfl; (with_reducible repeat (first | refine blk_drewN ?_ _ | refine blk_drew ?_ | refine blk_alloc ?_ _)); exact BK357.out) hb); have n4_ := Aside0.mk (below_step (by repeat (first | (with_reducible first | exact HB.out | apply below_alloc | apply pw_below_drewN | apply below_drew1 | refine below_set ?_ GE350.out | refine below_set ?_ GE357.out) | exact HB.out)) hb); clear HO355; clear BK350; clear BK357; clear HB; have HO355 := n0_; have HO360 := n1_; have BK350 := n2_; have BK357 := n3_; have HB := n4_; clear n0_ n1_ n2_ n3_ n4_; clear hb ho25; obtain ⟨Ao26, co26, eo26⟩ := Kd.R_slice HO360.out; subst eo26; have hcz27_0 : w24.cell? ⟨gb357, 0, none⟩ = some (.int .i64 a0_0) := (blk_cell BK357.out 0).trans rfl; have hcz27_1 : w24.cell? ⟨gb357, 1, none⟩ = some (.int .i64 a0_1) := (blk_cell BK357.out 1).trans rfl; have hcz27_2 : w24.cell? ⟨gb357, 2, none⟩ = some (.slice A0_2 l0_2.length c0_2) := (blk_cell BK357.out 2).trans rfl; have hcz27_3 : w24.cell? ⟨gb357, 3, none⟩ = some (.int .i64 a0_3) := (blk_cell BK357.out 3).trans rfl; have hfz27_0 := blk_frozen BK357.out 0; have hfz27_1 := blk_frozen BK357.out 1; have hfz27_2 := blk_frozen BK357.out 2; have hfz27_3 := blk_frozen BK357.out 3) | (go_at_call 11; (with_reducible refine (sched_Build.calls k a0_0 a0_1 _ _ y358 a0_3 t361 t364 _ ?side1 ?side2 A13.out).mono ?_); (case side1 => refine (Kd.R_reads' (e := 2) (base := w.heap.size) (ok := fun k_ => True) (n := y358.length) (c := co26) ?_).2.2; exact (by (with_reducible repeat (first | apply Kd.R_alloc | apply Kd.R_drewN | apply Kd.R_drew)); exact (Kd.R_mono (Kd.R_far (p := ⟨gb357, 2, none⟩) (Kd.R_types HO360.out BK357.out (by decide)) (fun _ hk => hk.2) (.slice Ao26 y358.length co26)) (fun _ h_ => h_.1)))); (case side2 => exact (Kd.R_reads' HO360.out).2.1); rintro e w28 ⟨v362, rfl, ho0, hb⟩; have n0_ := Aside0.mk (Kd.R_elder' (by (with_reducible repeat (first | apply Kd.R_alloc | apply Kd.R_drewN | apply Kd.R_drew)); exact (Kd.R_mono (Kd.R_far (p := ⟨gb357, 2, none⟩) (Kd.R_types HO355.out BK357.out (by decide)) (fun _ hk => hk.2) (.slice Ao26 y358.length co26)) (fun _ h_ => h_.1))) (Kd.R_base ho0) hb); have n1_ := Aside0.mk (Kd.R_below (by (with_reducible repeat (first | apply Kd.R_alloc | apply Kd.R_drewN | apply Kd.R_drew)); exact (Kd.R_mono (Kd.R_far (p := ⟨gb357, 2, none⟩) (Kd.R_types HO360.out BK357.out (by decide)) (fun _ hk => hk.2) (.slice Ao26 y358.length co26)) (fun _ h_ => h_.1))) hb); have n2_ := Aside0.mk (Kd.R_lower (Kd.R_new' ho0 (Kd.R_lt (by (with_reducible repeat (first | apply Kd.R_alloc | apply Kd.R_drewN | apply Kd.R_drew)); exact (Kd.R_mono (Kd.R_far (p := ⟨gb357, 2, none⟩) (Kd.R_types HO355.out BK357.out (by decide)) (fun _ hk => hk.2) (.slice Ao26 y358.length co26)) (fun _ h_ => h_.1))))) (below_size (by repeat (first | (with_reducible first | exact HB.out | apply below_alloc | apply pw_below_drewN | apply below_drew1 | refine below_set ?_ GE350.out | refine below_set ?_ GE357.out) | exact HB.out)))); have n3_ := Aside0.mk (blk_below (g := gb350) (o := .cells #[.int .i64 a0_0, .int .i64 a0_1, .slice A0_2 l0_2.length c0_2, .int .i64 a0_3] 24 (0, 0)) (by (with_reducible repeat (first | refine blk_drewN ?_ _ | refine blk_drew ?_ | refine blk_alloc ?_ _)); refine blk_far ?_ NB350_357.out _; (with_reducible repeat (first | refine blk_drewN ?_ _ | refine blk_drew ?_ | refine blk_alloc ?_ _)); exact BK350.out) hb); have n4_ := Aside0.mk (blk_below (g := gb357) (o := .cells #[.int .i64 a0_0, .int .i64 a0_1, .slice Ao26 y358.length co26, .int .i64 a0_3] 24 (0, 0)) (by (with_reducible repeat (first | refine blk_drewN ?_ _ | refine blk_drew ?_ | refine blk_alloc ?_ _)); refine blk_put (cs := #[.int .i64 a0_0, .int .i64 a0_1, .slice A0_2 l0_2.length c0_2, .int .i64 a0_3]) ?_ 2 _ rfl; (with_reducible repeat (first | refine blk_drewN ?_ _ | refine blk_drew ?_ | refine blk_alloc ?_ _)); exact BK357.out) hb); have n5_ := Aside0.mk (below_step (by repeat (first | (with_reducible first | exact HB.out | apply below_alloc | apply pw_below_drewN | apply below_drew1 | refine below_set ?_ GE350.out | refine below_set ?_ GE357.out) | exact HB.out)) hb); clear HO355; clear HO360; clear BK350; clear BK357; clear HB; have HO355 := n0_; have HO360 := n1_; have HO363 := n2_; have BK350 := n3_; have BK357 := n4_; have HB := n5_; clear n0_ n1_ n2_ n3_ n4_ n5_; (try clear hb); (try clear hb2); (try clear hk); (try clear hi); (try clear ho0); obtain ⟨Ao29, co29, eo29⟩ := Kd.R_slice HO363.out; subst eo29)); try go_wp2_with (first | ((with_reducible refine gate_dst (N := 2) rfl ?_); refine box_event ?hg (N := 2) ?hd (cs := #[.int .i64 a0_0, .int .i64 a0_1, .slice A0_2 l0_2.length c0_2, .int .i64 a0_3]) (t := 24) ?hr ?_; (case hd => rfl); (case hg => rfl); (case hr => first | (go_simp; done) | (go_simp; rfl)); intro gb350 hg w14 hbox hb; have n0_ := Aside0.mk (below_step (by repeat (first | (with_reducible first | exact HB.out | apply below_alloc | apply pw_below_drewN | apply below_drew1) | exact HB.out)) hb); have n1_ := Aside0.mk (hbox); have n2_ := Aside0.mk ((by rw [hg]; exact (below_size (by repeat (first | (with_reducible first | exact HB.out | apply below_alloc | apply pw_below_drewN | apply below_drew1) | exact HB.out))) : w.heap.size ≤ gb350)); have n3_ := Aside0.mk ((by rw [hg]; exact (below_size (by repeat (first | (with_reducible first | exact HB.out | apply below_alloc | apply pw_below_drewN | apply below_drew1) | exact HB.out))) : w.heap.size ≤ gb350)); clear HB; have HB := n0_; have BK350 := n1_; have GW350 := n2_; have GE350 := n3_; clear n0_ n1_ n2_ n3_; clear hb hbox hg) | (go_at_call 9; (with_reducible refine (lombardlaw08_alive.calls k  true _ A3.out).mono ?_); rintro e w15 ⟨rfl, hb⟩; have n0_ := Aside0.mk (blk_below (g := gb350) (o := .cells #[.int .i64 a0_0, .int .i64 a0_1, .slice A0_2 l0_2.length c0_2, .int .i64 a0_3] 24 (0, 0)) (by (with_reducible repeat (first | refine blk_drewN ?_ _ | refine blk_drew ?_ | refine blk_alloc ?_ _)); exact BK350.out) hb); have n1_ := Aside0.mk (below_step (by repeat (first | (with_reducible first | exact HB.out | apply below_alloc | apply pw_below_drewN | apply below_drew1 | refine below_set ?_ GE350.out) | exact HB.out)) hb); clear BK350; clear HB; have BK350 := n0_; have HB := n1_; clear n0_ n1_; (try clear hb); (try clear hb2); (try clear hk); (try clear hi); have hcz16_0 : w15.cell? ⟨gb350, 0, none⟩ = some (.int .i64 a0_0) := (blk_cell BK350.out 0).trans rfl; have hcz16_1 : w15.cell? ⟨gb350, 1, none⟩ = some (.int .i64 a0_1) := (blk_cell BK350.out 1).trans rfl; have hcz16_2 : w15.cell? ⟨gb350, 2, none⟩ = some (.slice A0_2 l0_2.length c0_2) := (blk_cell BK350.out 2).trans rfl; have hcz16_3 : w15.cell? ⟨gb350, 3, none⟩ = some (.int .i64 a0_3) := (blk_cell BK350.out 3).trans rfl; have hfz16_0 := blk_frozen BK350.out 0; have hfz16_1 := blk_frozen BK350.out 1; have hfz16_2 := blk_frozen BK350.out 2; have hfz16_3 := blk_frozen BK350.out 3) | (go_at_call 10; (with_reducible refine (lombardlaw08_great.calls a0_0 a0_1 _ _ l0_2 a0_3 false _ ?side1 ?side2 A5.out).mono ?_); (case side1 => repeat (first | exact (Kd.C_below HR0_2.out HB.out) | (with_reducible refine Kd.C_alloc ?_ _) | (with_reducible refine Kd.C_drewN ?_ _) | (with_reducible refine Kd.C_drew ?_))); (case side2 => exact HC0_2.out); rintro e w17 ⟨rfl, hb⟩; have n0_ := Aside0.mk (blk_below (g := gb350) (o := .cells #[.int .i64 a0_0, .int .i64 a0_1, .slice A0_2 l0_2.length c0_2, .int .i64 a0_3] 24 (0, 0)) (by (with_reducible repeat (first | refine blk_drewN ?_ _ | refine blk_drew ?_ | refine blk_alloc ?_ _)); exact BK350.out) hb); have n1_ := Aside0.mk (below_step (by repeat (first | (with_reducible first | exact HB.out | apply below_alloc | apply pw_below_drewN | apply below_drew1 | refine below_set ?_ GE350.out) | exact HB.out)) hb); clear BK350; clear HB; have BK350 := n0_; have HB := n1_; clear n0_ n1_; (try clear hb); (try clear hb2); (try clear hk); (try clear hi); have hcz18_0 : w17.cell? ⟨gb350, 0, none⟩ = some (.int .i64 a0_0) := (blk_cell BK350.out 0).trans rfl; have hcz18_1 : w17.cell? ⟨gb350, 1, none⟩ = some (.int .i64 a0_1) := (blk_cell BK350.out 1).trans rfl; have hcz18_2 : w17.cell? ⟨gb350, 2, none⟩ = some (.slice A0_2 l0_2.length c0_2) := (blk_cell BK350.out 2).trans rfl; have hcz18_3 : w17.cell? ⟨gb350, 3, none⟩ = some (.int .i64 a0_3) := (blk_cell BK350.out 3).trans rfl; have hfz18_0 := blk_frozen BK350.out 0; have hfz18_1 := blk_frozen BK350.out 1; have hfz18_2 := blk_frozen BK350.out 2; have hfz18_3 := blk_frozen BK350.out 3) | (go_at_call 11; (with_reducible refine (sched_Build.calls k a0_0 a0_1 _ _ l0_2 a0_3 t353 t356 _ ?side1 ?side2 A11.out).mono ?_); (case side1 => repeat (first | exact (Kd.C_below HR0_2.out HB.out) | (with_reducible refine Kd.C_alloc ?_ _) | (with_reducible refine Kd.C_drewN ?_ _) | (with_reducible refine Kd.C_drew ?_))); (case side2 => exact HC0_2.out); rintro e w19 ⟨v354, rfl, ho0, hb⟩; have n0_ := Aside0.mk (Kd.R_lower ho0 (below_size (by repeat (first | (with_reducible first | exact HB.out | apply below_alloc | apply pw_below_drewN | apply below_drew1 | refine below_set ?_ GE350.out) | exact HB.out)))); have n1_ := Aside0.mk (blk_below (g := gb350) (o := .cells #[.int .i64 a0_0, .int .i64 a0_1, .slice A0_2 l0_2.length c0_2, .int .i64 a0_3] 24 (0, 0)) (by (with_reducible repeat (first | refine blk_drewN ?_ _ | refine blk_drew ?_ | refine blk_alloc ?_ _)); exact BK350.out) hb); have n2_ := Aside0.mk (below_step (by repeat (first | (with_reducible first | exact HB.out | apply below_alloc | apply pw_below_drewN | apply below_drew1 | refine below_set ?_ GE350.out) | exact HB.out)) hb); clear BK350; clear HB; have HO355 := n0_; have BK350 := n1_; have HB := n2_; clear n0_ n1_ n2_; (try clear hb); (try clear hb2); (try clear hk); (try clear hi); (try clear ho0); have hcz20_0 : w19.cell? ⟨gb350, 0, none⟩ = some (.int .i64 a0_0) := (blk_cell BK350.out 0).trans rfl; have hcz20_1 : w19.cell? ⟨gb350, 1, none⟩ = some (.int .i64 a0_1) := (blk_cell BK350.out 1).trans rfl; have hcz20_2 : w19.cell? ⟨gb350, 2, none⟩ = some (.slice A0_2 l0_2.length c0_2) := (blk_cell BK350.out 2).trans rfl; have hcz20_3 : w19.cell? ⟨gb350, 3, none⟩ = some (.int .i64 a0_3) := (blk_cell BK350.out 3).trans rfl; have hfz20_0 := blk_frozen BK350.out 0; have hfz20_1 := blk_frozen BK350.out 1; have hfz20_2 := blk_frozen BK350.out 2; have hfz20_3 := blk_frozen BK350.out 3) | ((with_reducible refine gate_dst (N := 7) rfl ?_); refine box_event ?hg (N := 7) ?hd (cs := #[.int .i64 0, .int .i64 0, .slice none 0 0, .int .i64 0]) (t := 24) ?hr ?_; (case hd => rfl); (case hg => rfl); (case hr => first | (go_simp; done) | (go_simp; rfl)); intro gb357 hg w21 hbox hb; have n0_ := Aside0.mk (Kd.R_below (by (with_reducible repeat (first | apply Kd.R_alloc | apply Kd.R_drewN | apply Kd.R_drew)); exact HO355.out) hb); have n1_ := Aside0.mk (blk_below (g := gb350) (o := .cells #[.int .i64 a0_0, .int .i64 a0_1, .slice A0_2 l0_2.length c0_2, .int .i64 a0_3] 24 (0, 0)) (by (with_reducible repeat (first | refine blk_drewN ?_ _ | refine blk_drew ?_ | refine blk_alloc ?_ _)); exact BK350.out) hb); have n2_ := Aside0.mk (below_step (by repeat (first | (with_reducible first | exact HB.out | apply below_alloc | apply pw_below_drewN | apply below_drew1 | refine below_set ?_ GE350.out) | exact HB.out)) hb); have n3_ := Aside0.mk (hbox); have n4_ := Aside0.mk ((by rw [hg]; exact (below_size (by repeat (first | (with_reducible first | exact HB.out | apply below_alloc | apply pw_below_drewN | apply below_drew1 | refine below_set ?_ GE350.out) | exact HB.out))) : w.heap.size ≤ gb357)); have n5_ := Aside0.mk ((by rw [hg]; exact (below_size (by repeat (first | (with_reducible first | exact HB.out | apply below_alloc | apply pw_below_drewN | apply below_drew1 | refine below_set ?_ GE350.out) | exact HB.out))) : w.heap.size ≤ gb357)); have n6_ := Aside0.mk ((by rw [hg]; exact Nat.ne_of_lt (blk_lt (g := gb350) (o := .cells #[.int .i64 a0_0, .int .i64 a0_1, .slice A0_2 l0_2.length c0_2, .int .i64 a0_3] 24 (0, 0)) (by (with_reducible repeat (first | refine blk_drewN ?_ _ | refine blk_drew ?_ | refine blk_alloc ?_ _)); exact BK350.out)) : gb350 ≠ gb357)); have n7_ := Aside0.mk ((by rw [hg]; exact Nat.ne_of_gt (blk_lt (g := gb350) (o := .cells #[.int .i64 a0_0, .int .i64 a0_1, .slice A0_2 l0_2.length c0_2, .int .i64 a0_3] 24 (0, 0)) (by (with_reducible repeat (first | refine blk_drewN ?_ _ | refine blk_drew ?_ | refine blk_alloc ?_ _)); exact BK350.out)) : gb357 ≠ gb350)); clear HO355; clear BK350; clear HB; have HO355 := n0_; have BK350 := n1_; have HB := n2_; have BK357 := n3_; have GW357 := n4_; have GE357 := n5_; have NB350_357 := n6_; have NB357_350 := n7_; clear n0_ n1_ n2_ n3_ n4_ n5_ n6_ n7_; clear hb hbox hg; have hnb22 := NB357_350.out; have hnc22 := NB350_357.out; have hcz23_0 : w21.cell? ⟨gb357, 0, none⟩ = some (.int .i64 0) := (blk_cell BK357.out 0).trans rfl; have hcz23_1 : w21.cell? ⟨gb357, 1, none⟩ = some (.int .i64 0) := (blk_cell BK357.out 1).trans rfl; have hcz23_2 : w21.cell? ⟨gb357, 2, none⟩ = some (.slice none 0 0) := (blk_cell BK357.out 2).trans rfl; have hcz23_3 : w21.cell? ⟨gb357, 3, none⟩ = some (.int .i64 0) := (blk_cell BK357.out 3).trans rfl; have hfz23_0 := blk_frozen BK357.out 0; have hfz23_1 := blk_frozen BK357.out 1; have hfz23_2 := blk_frozen BK357.out 2; have hfz23_3 := blk_frozen BK357.out 3) | ((with_reducible refine gate_dst (N := 31) rfl ?_); refine Kd.R_lit (Kd.int .i64) _ 2 ?hg (N := 31) ?hd (xs := ([0] : List Int)) (inner := [.int .i64 0]) (ok := fun _ => True) (okp := fun _ => True) ?hr ?hp (fun _ hk => hk) trivial (Below.refl _ _) (Nat.le_refl _) (by simp) ?_; (case hd => rfl); (case hg => rfl); (case hr => first | (go_simp; done) | (go_simp; rfl)); (case hp => exact (Reps.one (show Kd.M (Kd.int .i64) _ _ _ 0 [.int .i64 0] from rfl) (Reps.none _ _))); intro v359 w24 ho25 hb hg_ hnew_; clear hg_ hnew_; (first | rw [← Ny358.out] at ho25 | (simp only [Int.reduceToNat] at ho25; rw [← Ny358.out] at ho25)); have n0_ := Aside0.mk (Kd.R_below (by (with_reducible repeat (first | apply Kd.R_alloc | apply Kd.R_drewN | apply Kd.R_drew)); exact (Kd.R_mono (Kd.R_far (p := ⟨gb357, 3, none⟩) (Kd.R_far (p := ⟨gb357, 2, none⟩) (Kd.R_far (p := ⟨gb357, 1, none⟩) (Kd.R_far (p := ⟨gb357, 0, none⟩) (Kd.R_types HO355.out BK357.out (by decide)) (fun _ hk => hk.2) (.int .i64 a0_0)) (fun _ hk => hk.2) (.int .i64 a0_1)) (fun _ hk => hk.2) (.slice A0_2 l0_2.length c0_2)) (fun _ hk => hk.2) (.int .i64 a0_3)) (fun _ h_ => h_.1))) hb); have n1_ := Aside0.mk (Kd.R_lower ho25 (below_size (by repeat (first | (with_reducible first | exact HB.out | apply below_alloc | apply pw_below_drewN | apply below_drew1 | refine below_set ?_ GE350.out | refine below_set ?_ GE357.out) | exact HB.out)))); have n2_ := Aside0.mk (blk_below (g := gb350) (o := .cells #[.int .i64 a0_0, .int .i64 a0_1, .slice A0_2 l0_2.length c0_2, .int .i64 a0_3] 24 (0, 0)) (by (with_reducible repeat (first | refine blk_drewN ?_ _ | refine blk_drew ?_ | refine blk_alloc ?_ _)); refine blk_far ?_ NB350_357.out _; (with_reducible repeat (first | refine blk_drewN ?_ _ | refine blk_drew ?_ | refine blk_alloc ?_ _)); refine blk_far ?_ NB350_357.out _; (with_reducible repeat (first | refine blk_drewN ?_ _ | refine blk_drew ?_ | refine blk_alloc ?_ _)); refine blk_far ?_ NB350_357.out _; (with_reducible repeat (first | refine blk_drewN ?_ _ | refine blk_drew ?_ | refine blk_alloc ?_ _)); refine blk_far ?_ NB350_357.out _; (with_reducible repeat (first | refine blk_drewN ?_ _ | refine blk_drew ?_ | refine blk_alloc ?_ _)); exact BK350.out) hb); have n3_ := Aside0.mk (blk_below (g := gb357) (o := .cells #[.int .i64 a0_0, .int .i64 a0_1, .slice A0_2 l0_2.length c0_2, .int .i64 a0_3] 24 (0, 0)) (by (with_reducible repeat (first | refine blk_drewN ?_ _ | refine blk_drew ?_ | refine blk_alloc ?_ _)); refine blk_put (cs := #[.int .i64 a0_0, .int .i64 a0_1, .slice A0_2 l0_2.length c0_2, .int .i64 0]) ?_ 3 _ rfl; (with_reducible repeat (first | refine blk_drewN ?_ _ | refine blk_drew ?_ | refine blk_alloc ?_ _)); refine blk_put (cs := #[.int .i64 a0_0, .int .i64 a0_1, .slice none 0 0, .int .i64 0]) ?_ 2 _ rfl; (with_reducible repeat (first | refine blk_drewN ?_ _ | refine blk_drew ?_ | refine blk_alloc ?_ _)); refine blk_put (cs := #[.int .i64 a0_0, .int .i64 0, .slice none 0 0, .int .i64 0]) ?_ 1 _ rfl; (with_reducible repeat (first | refine blk_drewN ?_ _ | refine blk_drew ?_ | refine blk_alloc ?_ _)); refine blk_put (cs := #[.int .i64 0, .int .i64 0, .slice none 0 0, .int .i64 0]) ?_ 0 _ rfl; (with_reducible repeat (first | refine blk_drewN ?_ _ | refine blk_drew ?_ | refine blk_alloc ?_ _)); exact BK357.out) hb); have n4_ := Aside0.mk (below_step (by repeat (first | (with_reducible first | exact HB.out | apply below_alloc | apply pw_below_drewN | apply below_drew1 | refine below_set ?_ GE350.out | refine below_set ?_ GE357.out) | exact HB.out)) hb); clear HO355; clear BK350; clear BK357; clear HB; have HO355 := n0_; have HO360 := n1_; have BK350 := n2_; have BK357 := n3_; have HB := n4_; clear n0_ n1_ n2_ n3_ n4_; clear hb ho25; obtain ⟨Ao26, co26, eo26⟩ := Kd.R_slice HO360.out; subst eo26; have hcz27_0 : w24.cell? ⟨gb357, 0, none⟩ = some (.int .i64 a0_0) := (blk_cell BK357.out 0).trans rfl; have hcz27_1 : w24.cell? ⟨gb357, 1, none⟩ = some (.int .i64 a0_1) := (blk_cell BK357.out 1).trans rfl; have hcz27_2 : w24.cell? ⟨gb357, 2, none⟩ = some (.slice A0_2 l0_2.length c0_2) := (blk_cell BK357.out 2).trans rfl; have hcz27_3 : w24.cell? ⟨gb357, 3, none⟩ = some (.int .i64 a0_3) := (blk_cell BK357.out 3).trans rfl; have hfz27_0 := blk_frozen BK357.out 0; have hfz27_1 := blk_frozen BK357.out 1; have hfz27_2 := blk_frozen BK357.out 2; have hfz27_3 := blk_frozen BK357.out 3) | (go_at_call 11; (with_reducible refine (sched_Build.calls k a0_0 a0_1 _ _ y358 a0_3 t361 t364 _ ?side1 ?side2 A13.out).mono ?_); (case side1 => refine (Kd.R_reads' (e := 2) (base := w.heap.size) (ok := fun k_ => True) (n := y358.length) (c := co26) ?_).2.2; exact (by (with_reducible repeat (first | apply Kd.R_alloc | apply Kd.R_drewN | apply Kd.R_drew)); exact (Kd.R_mono (Kd.R_far (p := ⟨gb357, 2, none⟩) (Kd.R_types HO360.out BK357.out (by decide)) (fun _ hk => hk.2) (.slice Ao26 y358.length co26)) (fun _ h_ => h_.1)))); (case side2 => exact (Kd.R_reads' HO360.out).2.1); rintro e w28 ⟨v362, rfl, ho0, hb⟩; have n0_ := Aside0.mk (Kd.R_elder' (by (with_reducible repeat (first | apply Kd.R_alloc | apply Kd.R_drewN | apply Kd.R_drew)); exact (Kd.R_mono (Kd.R_far (p := ⟨gb357, 2, none⟩) (Kd.R_types HO355.out BK357.out (by decide)) (fun _ hk => hk.2) (.slice Ao26 y358.length co26)) (fun _ h_ => h_.1))) (Kd.R_base ho0) hb); have n1_ := Aside0.mk (Kd.R_below (by (with_reducible repeat (first | apply Kd.R_alloc | apply Kd.R_drewN | apply Kd.R_drew)); exact (Kd.R_mono (Kd.R_far (p := ⟨gb357, 2, none⟩) (Kd.R_types HO360.out BK357.out (by decide)) (fun _ hk => hk.2) (.slice Ao26 y358.length co26)) (fun _ h_ => h_.1))) hb); have n2_ := Aside0.mk (Kd.R_lower (Kd.R_new' ho0 (Kd.R_lt (by (with_reducible repeat (first | apply Kd.R_alloc | apply Kd.R_drewN | apply Kd.R_drew)); exact (Kd.R_mono (Kd.R_far (p := ⟨gb357, 2, none⟩) (Kd.R_types HO355.out BK357.out (by decide)) (fun _ hk => hk.2) (.slice Ao26 y358.length co26)) (fun _ h_ => h_.1))))) (below_size (by repeat (first | (with_reducible first | exact HB.out | apply below_alloc | apply pw_below_drewN | apply below_drew1 | refine below_set ?_ GE350.out | refine below_set ?_ GE357.out) | exact HB.out)))); have n3_ := Aside0.mk (blk_below (g := gb350) (o := .cells #[.int .i64 a0_0, .int .i64 a0_1, .slice A0_2 l0_2.length c0_2, .int .i64 a0_3] 24 (0, 0)) (by (with_reducible repeat (first | refine blk_drewN ?_ _ | refine blk_drew ?_ | refine blk_alloc ?_ _)); refine blk_far ?_ NB350_357.out _; (with_reducible repeat (first | refine blk_drewN ?_ _ | refine blk_drew ?_ | refine blk_alloc ?_ _)); exact BK350.out) hb); have n4_ := Aside0.mk (blk_below (g := gb357) (o := .cells #[.int .i64 a0_0, .int .i64 a0_1, .slice Ao26 y358.length co26, .int .i64 a0_3] 24 (0, 0)) (by (with_reducible repeat (first | refine blk_drewN ?_ _ | refine blk_drew ?_ | refine blk_alloc ?_ _)); refine blk_put (cs := #[.int .i64 a0_0, .int .i64 a0_1, .slice A0_2 l0_2.length c0_2, .int .i64 a0_3]) ?_ 2 _ rfl; (with_reducible repeat (first | refine blk_drewN ?_ _ | refine blk_drew ?_ | refine blk_alloc ?_ _)); exact BK357.out) hb); have n5_ := Aside0.mk (below_step (by repeat (first | (with_reducible first | exact HB.out | apply below_alloc | apply pw_below_drewN | apply below_drew1 | refine below_set ?_ GE350.out | refine below_set ?_ GE357.out) | exact HB.out)) hb); clear HO355; clear HO360; clear BK350; clear BK357; clear HB; have HO355 := n0_; have HO360 := n1_; have HO363 := n2_; have BK350 := n3_; have BK357 := n4_; have HB := n5_; clear n0_ n1_ n2_ n3_ n4_ n5_; (try clear hb); (try clear hb2); (try clear hk); (try clear hi); (try clear ho0); obtain ⟨Ao29, co29, eo29⟩ := Kd.R_slice HO363.out; subst eo29)))
        go_loopg [10, 40] k (fun kq v10 v40 w' => ∃ (x10_1 : Int) (x40_1 : Int), v10 = .int .i64 x10_1 ∧ v40 = .int .i64 x40_1 ∧ Aside0 (lombardlaw08_SchedRates.l0 kq a1 t353 t364 x10_1 t361 (t361.length : Int) x40_1 a0_0 a0_1 l0_2 a0_3 = some r) ∧ Aside0 (kq ≤ k) ∧ Aside0 (Kd.R k43 43 w' w.heap.size (fun k_ => some k_ ≠ ((.slice Ao29 t361.length co29) : Value).ownBlock) v354 t353) ∧ Aside0 (Kd.R k43 43 w' w.heap.size (fun k_ => some k_ ≠ (v354 : Value).ownBlock) (.slice Ao29 t361.length co29) t361) ∧ Aside0 (Kd.R (Kd.int .i64) 2 w' w.heap.size (fun _ => True) (.slice Ao26 y358.length co26) y358) ∧ Aside0 (w'.heap[gb350]? = some (.cells #[.int .i64 a0_0, .int .i64 a0_1, (.slice A0_2 l0_2.length c0_2), .int .i64 a0_3] 24 (0, 0))) ∧ Aside0 (w'.heap[gb357]? = some (.cells #[.int .i64 a0_0, .int .i64 a0_1, (.slice Ao26 y358.length co26), .int .i64 a0_3] 24 (0, 0))) ∧ Aside0 (Below w.heap.size w w'))
        case atStart => exact ⟨(0), (0), (by first | rfl | (simp; done) | (simp [*]; done)), (by first | rfl | (simp; done) | (simp [*]; done)), H', ⟨Nat.le_refl _⟩, ⟨by (with_reducible repeat (first | apply Kd.R_alloc | apply Kd.R_drewN | apply Kd.R_drew)); exact Kd.R_mono HO355.out (fun _ hk => hk.2)⟩, ⟨by (with_reducible repeat (first | apply Kd.R_alloc | apply Kd.R_drewN | apply Kd.R_drew)); exact Kd.R_mono HO363.out (fun _ hk => hk.2)⟩, ⟨by (with_reducible repeat (first | apply Kd.R_alloc | apply Kd.R_drewN | apply Kd.R_drew)); exact HO360.out⟩, ⟨by (with_reducible repeat (first | refine blk_drewN ?_ _ | refine blk_drew ?_ | refine blk_alloc ?_ _)); exact BK350.out⟩, ⟨by (with_reducible repeat (first | refine blk_drewN ?_ _ | refine blk_drew ?_ | refine blk_alloc ?_ _)); exact BK357.out⟩, ⟨by repeat (first | (with_reducible first | exact HB.out | apply below_alloc | apply pw_below_drewN | apply below_drew1 | refine below_set ?_ GE350.out | refine below_set ?_ GE357.out) | exact HB.out)⟩⟩
        case round =>
          clear H'
          try clear c1
          try clear c2
          try clear p2
          try clear c4
          try clear c6
          try clear c8
          try clear c12
          try clear c12b0
          try clear c12b1
          try clear c22
          try clear hcz16_0
          try clear hcz16_1
          try clear hcz16_2
          try clear hcz16_3
          try clear hcz18_0
          try clear hcz18_1
          try clear hcz18_2
          try clear hcz18_3
          try clear hcz20_0
          try clear hcz20_1
          try clear hcz20_2
          try clear hcz20_3
          try clear hcz23_0
          try clear hcz23_1
          try clear hcz23_2
          try clear hcz23_3
          try clear hcz27_0
          try clear hcz27_1
          try clear hcz27_2
          try clear hcz27_3
          try clear hcz9_0
          try clear hcz9_1
          try clear hcz9_2
          try clear hcz9_3
          try clear hfz16_0
          try clear hfz16_1
          try clear hfz16_2
          try clear hfz16_3
          try clear hfz18_0
          try clear hfz18_1
          try clear hfz18_2
          try clear hfz18_3
          try clear hfz20_0
          try clear hfz20_1
          try clear hfz20_2
          try clear hfz20_3
          try clear hfz23_0
          try clear hfz23_1
          try clear hfz23_2
          try clear hfz23_3
          try clear hfz27_0
          try clear hfz27_1
          try clear hfz27_2
          try clear hfz27_3
          try clear hfz9_0
          try clear hfz9_1
          try clear hfz9_2
          try clear hfz9_3
          obtain ⟨x10_1, x40_1, rfl, rfl, HA, HK1, HO_5, HO_38, HO_358002, BK350, BK357, HB⟩ := hrel
          cases gk with
          | zero => exact absurd HA.out (by simp [lombardlaw08_SchedRates.l0])
          | succ k1 =>
            have H := HA.out
            clear HA
            simp only [lombardlaw08_SchedRates.l0] at H
            by_cases c30 : x40_1 < (t361.length : Int)
            · rw [if_pos c30] at H
              have c30b0 : decide (x40_1 < (t361.length : Int)) = true := decide_eq_true c30
              clear c30
              by_cases c31 : 0 ≤ x40_1
              · rw [if_pos c31] at H
                have c31b0 : decide (0 ≤ x40_1) = true := decide_eq_true c31
                clear c31
                by_cases c32 : x40_1 < (t361.length : Int)
                · rw [if_pos c32] at H
                  have c32b0 : decide (x40_1 < (t361.length : Int)) = true := decide_eq_true c32
                  clear c32
                  have H' := Aside0.mk H
                  clear H
                  have p365 : 0 ≤ (x40_1 : Int) := of_decide_eq_true (by first | (with_reducible assumption) | assumption)
                  have q365 : x40_1 < (t361.length : Int) := of_decide_eq_true (by first | (with_reducible assumption) | assumption)
                  obtain ⟨ad365, e365, hx365_0, hx365_1, hx365_2, hx365_3⟩ := at_T43 (Kd.R_reads' HO_38.out).2.2 x40_1 p365 q365
                  cases e365
                  replace p365 := eq_true p365
                  replace q365 := eq_true q365
                  go_wp2_with (first | ((with_reducible refine gate_dst (N := 12) rfl ?_); refine box_event ?hg (N := 12) ?hd (cs := #[.int .i64 0, .int .i64 0, .int .i64 0, .int .i64 0]) (t := 43) ?hr ?_; (case hd => rfl); (case hg => rfl); (case hr => first | (go_simp; done) | (go_simp; rfl)); intro gb366 hg w33 hbox hb; have n0_ := Aside0.mk (Kd.R_below (Kd.R_elderB (by (with_reducible repeat (first | apply Kd.R_alloc | apply Kd.R_drewN | apply Kd.R_drew)); exact HO_5.out) gb366 (Nat.le_of_eq hg.symm)) hb); have n1_ := Aside0.mk (Kd.R_below (Kd.R_elderB (by (with_reducible repeat (first | apply Kd.R_alloc | apply Kd.R_drewN | apply Kd.R_drew)); exact HO_38.out) gb366 (Nat.le_of_eq hg.symm)) hb); have n2_ := Aside0.mk (Kd.R_below (by (with_reducible repeat (first | apply Kd.R_alloc | apply Kd.R_drewN | apply Kd.R_drew)); exact HO_358002.out) hb); have n3_ := Aside0.mk (blk_below (g := gb350) (o := .cells #[.int .i64 a0_0, .int .i64 a0_1, .slice A0_2 l0_2.length c0_2, .int .i64 a0_3] 24 (0, 0)) (by (with_reducible repeat (first | refine blk_drewN ?_ _ | refine blk_drew ?_ | refine blk_alloc ?_ _)); exact BK350.out) hb); have n4_ := Aside0.mk (blk_below (g := gb357) (o := .cells #[.int .i64 a0_0, .int .i64 a0_1, .slice Ao26 y358.length co26, .int .i64 a0_3] 24 (0, 0)) (by (with_reducible repeat (first | refine blk_drewN ?_ _ | refine blk_drew ?_ | refine blk_alloc ?_ _)); exact BK357.out) hb); have n5_ := Aside0.mk (below_step (by repeat (first | (with_reducible first | exact HB.out | apply below_alloc | apply pw_below_drewN | apply below_drew1 | refine below_set ?_ GE350.out | refine below_set ?_ GE357.out) | exact HB.out)) hb); have n6_ := Aside0.mk (hbox); have n7_ := Aside0.mk ((by rw [hg]; exact (below_size (by repeat (first | (with_reducible first | exact HB.out | apply below_alloc | apply pw_below_drewN | apply below_drew1 | refine below_set ?_ GE350.out | refine below_set ?_ GE357.out) | exact HB.out))) : w.heap.size ≤ gb366)); have n8_ := Aside0.mk ((by rw [hg]; exact (below_size (by repeat (first | (with_reducible first | exact HB.out | apply below_alloc | apply pw_below_drewN | apply below_drew1 | refine below_set ?_ GE350.out | refine below_set ?_ GE357.out) | exact HB.out))) : w.heap.size ≤ gb366)); have n9_ := Aside0.mk ((by rw [hg]; exact Nat.ne_of_lt (blk_lt (g := gb350) (o := .cells #[.int .i64 a0_0, .int .i64 a0_1, .slice A0_2 l0_2.length c0_2, .int .i64 a0_3] 24 (0, 0)) (by (with_reducible repeat (first | refine blk_drewN ?_ _ | refine blk_drew ?_ | refine blk_alloc ?_ _)); exact BK350.out)) : gb350 ≠ gb366)); have n10_ := Aside0.mk ((by rw [hg]; exact Nat.ne_of_gt (blk_lt (g := gb350) (o := .cells #[.int .i64 a0_0, .int .i64 a0_1, .slice A0_2 l0_2.length c0_2, .int .i64 a0_3] 24 (0, 0)) (by (with_reducible repeat (first | refine blk_drewN ?_ _ | refine blk_drew ?_ | refine blk_alloc ?_ _)); exact BK350.out)) : gb366 ≠ gb350)); have n11_ := Aside0.mk ((by rw [hg]; exact Nat.ne_of_lt (blk_lt (g := gb357) (o := .cells #[.int .i64 a0_0, .int .i64 a0_1, .slice Ao26 y358.length co26, .int .i64 a0_3] 24 (0, 0)) (by (with_reducible repeat (first | refine blk_drewN ?_ _ | refine blk_drew ?_ | refine blk_alloc ?_ _)); exact BK357.out)) : gb357 ≠ gb366)); have n12_ := Aside0.mk ((by rw [hg]; exact Nat.ne_of_gt (blk_lt (g := gb357) (o := .cells #[.int .i64 a0_0, .int .i64 a0_1, .slice Ao26 y358.length co26, .int .i64 a0_3] 24 (0, 0)) (by (with_reducible repeat (first | refine blk_drewN ?_ _ | refine blk_drew ?_ | refine blk_alloc ?_ _)); exact BK357.out)) : gb366 ≠ gb357)); clear HO_5; clear HO_38; clear HO_358002; clear BK350; clear BK357; clear HB; have HO_5 := n0_; have HO_38 := n1_; have HO_358002 := n2_; have BK350 := n3_; have BK357 := n4_; have HB := n5_; have BK366 := n6_; have GW366 := n7_; have GE366 := n8_; have NB350_366 := n9_; have NB366_350 := n10_; have NB357_366 := n11_; have NB366_357 := n12_; clear n0_ n1_ n2_ n3_ n4_ n5_ n6_ n7_ n8_ n9_ n10_ n11_ n12_; clear hb hbox hg; have hnb34 := NB366_350.out; have hnc34 := NB350_366.out; have hnb35 := NB366_357.out; have hnc35 := NB357_366.out; have hcz36_0 : w33.cell? ⟨gb366, 0, none⟩ = some (.int .i64 0) := (blk_cell BK366.out 0).trans rfl; have hcz36_1 : w33.cell? ⟨gb366, 1, none⟩ = some (.int .i64 0) := (blk_cell BK366.out 1).trans rfl; have hcz36_2 : w33.cell? ⟨gb366, 2, none⟩ = some (.int .i64 0) := (blk_cell BK366.out 2).trans rfl; have hcz36_3 : w33.cell? ⟨gb366, 3, none⟩ = some (.int .i64 0) := (blk_cell BK366.out 3).trans rfl; have hfz36_0 := blk_frozen BK366.out 0; have hfz36_1 := blk_frozen BK366.out 1; have hfz36_2 := blk_frozen BK366.out 2; have hfz36_3 := blk_frozen BK366.out 3))
                  repeat (go_quiet (first | ((with_reducible refine gate_dst (N := 12) rfl ?_); refine box_event ?hg (N := 12) ?hd (cs := #[.int .i64 0, .int .i64 0, .int .i64 0, .int .i64 0]) (t := 43) ?hr ?_; (case hd => rfl); (case hg => rfl); (case hr => first | (go_simp; done) | (go_simp; rfl)); intro gb366 hg w33 hbox hb; have n0_ := Aside0.mk (Kd.R_below (Kd.R_elderB (by (with_reducible repeat (first | apply Kd.R_alloc | apply Kd.R_drewN | apply Kd.R_drew)); exact HO_5.out) gb366 (Nat.le_of_eq hg.symm)) hb); have n1_ := Aside0.mk (Kd.R_below (Kd.R_elderB (by (with_reducible repeat (first | apply Kd.R_alloc | apply Kd.R_drewN | apply Kd.R_drew)); exact HO_38.out) gb366 (Nat.le_of_eq hg.symm)) hb); have n2_ := Aside0.mk (Kd.R_below (by (with_reducible repeat (first | apply Kd.R_alloc | apply Kd.R_drewN | apply Kd.R_drew)); exact HO_358002.out) hb); have n3_ := Aside0.mk (blk_below (g := gb350) (o := .cells #[.int .i64 a0_0, .int .i64 a0_1, .slice A0_2 l0_2.length c0_2, .int .i64 a0_3] 24 (0, 0)) (by (with_reducible repeat (first | refine blk_drewN ?_ _ | refine blk_drew ?_ | refine blk_alloc ?_ _)); exact BK350.out) hb); have n4_ := Aside0.mk (blk_below (g := gb357) (o := .cells #[.int .i64 a0_0, .int .i64 a0_1, .slice Ao26 y358.length co26, .int .i64 a0_3] 24 (0, 0)) (by (with_reducible repeat (first | refine blk_drewN ?_ _ | refine blk_drew ?_ | refine blk_alloc ?_ _)); exact BK357.out) hb); have n5_ := Aside0.mk (below_step (by repeat (first | (with_reducible first | exact HB.out | apply below_alloc | apply pw_below_drewN | apply below_drew1 | refine below_set ?_ GE350.out | refine below_set ?_ GE357.out) | exact HB.out)) hb); have n6_ := Aside0.mk (hbox); have n7_ := Aside0.mk ((by rw [hg]; exact (below_size (by repeat (first | (with_reducible first | exact HB.out | apply below_alloc | apply pw_below_drewN | apply below_drew1 | refine below_set ?_ GE350.out | refine below_set ?_ GE357.out) | exact HB.out))) : w.heap.size ≤ gb366)); have n8_ := Aside0.mk ((by rw [hg]; exact (below_size (by repeat (first | (with_reducible first | exact HB.out | apply below_alloc | apply pw_below_drewN | apply below_drew1 | refine below_set ?_ GE350.out | refine below_set ?_ GE357.out) | exact HB.out))) : w.heap.size ≤ gb366)); have n9_ := Aside0.mk ((by rw [hg]; exact Nat.ne_of_lt (blk_lt (g := gb350) (o := .cells #[.int .i64 a0_0, .int .i64 a0_1, .slice A0_2 l0_2.length c0_2, .int .i64 a0_3] 24 (0, 0)) (by (with_reducible repeat (first | refine blk_drewN ?_ _ | refine blk_drew ?_ | refine blk_alloc ?_ _)); exact BK350.out)) : gb350 ≠ gb366)); have n10_ := Aside0.mk ((by rw [hg]; exact Nat.ne_of_gt (blk_lt (g := gb350) (o := .cells #[.int .i64 a0_0, .int .i64 a0_1, .slice A0_2 l0_2.length c0_2, .int .i64 a0_3] 24 (0, 0)) (by (with_reducible repeat (first | refine blk_drewN ?_ _ | refine blk_drew ?_ | refine blk_alloc ?_ _)); exact BK350.out)) : gb366 ≠ gb350)); have n11_ := Aside0.mk ((by rw [hg]; exact Nat.ne_of_lt (blk_lt (g := gb357) (o := .cells #[.int .i64 a0_0, .int .i64 a0_1, .slice Ao26 y358.length co26, .int .i64 a0_3] 24 (0, 0)) (by (with_reducible repeat (first | refine blk_drewN ?_ _ | refine blk_drew ?_ | refine blk_alloc ?_ _)); exact BK357.out)) : gb357 ≠ gb366)); have n12_ := Aside0.mk ((by rw [hg]; exact Nat.ne_of_gt (blk_lt (g := gb357) (o := .cells #[.int .i64 a0_0, .int .i64 a0_1, .slice Ao26 y358.length co26, .int .i64 a0_3] 24 (0, 0)) (by (with_reducible repeat (first | refine blk_drewN ?_ _ | refine blk_drew ?_ | refine blk_alloc ?_ _)); exact BK357.out)) : gb366 ≠ gb357)); clear HO_5; clear HO_38; clear HO_358002; clear BK350; clear BK357; clear HB; have HO_5 := n0_; have HO_38 := n1_; have HO_358002 := n2_; have BK350 := n3_; have BK357 := n4_; have HB := n5_; have BK366 := n6_; have GW366 := n7_; have GE366 := n8_; have NB350_366 := n9_; have NB366_350 := n10_; have NB357_366 := n11_; have NB366_357 := n12_; clear n0_ n1_ n2_ n3_ n4_ n5_ n6_ n7_ n8_ n9_ n10_ n11_ n12_; clear hb hbox hg; have hnb34 := NB366_350.out; have hnc34 := NB350_366.out; have hnb35 := NB366_357.out; have hnc35 := NB357_366.out; have hcz36_0 : w33.cell? ⟨gb366, 0, none⟩ = some (.int .i64 0) := (blk_cell BK366.out 0).trans rfl; have hcz36_1 : w33.cell? ⟨gb366, 1, none⟩ = some (.int .i64 0) := (blk_cell BK366.out 1).trans rfl; have hcz36_2 : w33.cell? ⟨gb366, 2, none⟩ = some (.int .i64 0) := (blk_cell BK366.out 2).trans rfl; have hcz36_3 : w33.cell? ⟨gb366, 3, none⟩ = some (.int .i64 0) := (blk_cell BK366.out 3).trans rfl; have hfz36_0 := blk_frozen BK366.out 0; have hfz36_1 := blk_frozen BK366.out 1; have hfz36_2 := blk_frozen BK366.out 2; have hfz36_3 := blk_frozen BK366.out 3)); try go_wp2_with (first | ((with_reducible refine gate_dst (N := 12) rfl ?_); refine box_event ?hg (N := 12) ?hd (cs := #[.int .i64 0, .int .i64 0, .int .i64 0, .int .i64 0]) (t := 43) ?hr ?_; (case hd => rfl); (case hg => rfl); (case hr => first | (go_simp; done) | (go_simp; rfl)); intro gb366 hg w33 hbox hb; have n0_ := Aside0.mk (Kd.R_below (Kd.R_elderB (by (with_reducible repeat (first | apply Kd.R_alloc | apply Kd.R_drewN | apply Kd.R_drew)); exact HO_5.out) gb366 (Nat.le_of_eq hg.symm)) hb); have n1_ := Aside0.mk (Kd.R_below (Kd.R_elderB (by (with_reducible repeat (first | apply Kd.R_alloc | apply Kd.R_drewN | apply Kd.R_drew)); exact HO_38.out) gb366 (Nat.le_of_eq hg.symm)) hb); have n2_ := Aside0.mk (Kd.R_below (by (with_reducible repeat (first | apply Kd.R_alloc | apply Kd.R_drewN | apply Kd.R_drew)); exact HO_358002.out) hb); have n3_ := Aside0.mk (blk_below (g := gb350) (o := .cells #[.int .i64 a0_0, .int .i64 a0_1, .slice A0_2 l0_2.length c0_2, .int .i64 a0_3] 24 (0, 0)) (by (with_reducible repeat (first | refine blk_drewN ?_ _ | refine blk_drew ?_ | refine blk_alloc ?_ _)); exact BK350.out) hb); have n4_ := Aside0.mk (blk_below (g := gb357) (o := .cells #[.int .i64 a0_0, .int .i64 a0_1, .slice Ao26 y358.length co26, .int .i64 a0_3] 24 (0, 0)) (by (with_reducible repeat (first | refine blk_drewN ?_ _ | refine blk_drew ?_ | refine blk_alloc ?_ _)); exact BK357.out) hb); have n5_ := Aside0.mk (below_step (by repeat (first | (with_reducible first | exact HB.out | apply below_alloc | apply pw_below_drewN | apply below_drew1 | refine below_set ?_ GE350.out | refine below_set ?_ GE357.out) | exact HB.out)) hb); have n6_ := Aside0.mk (hbox); have n7_ := Aside0.mk ((by rw [hg]; exact (below_size (by repeat (first | (with_reducible first | exact HB.out | apply below_alloc | apply pw_below_drewN | apply below_drew1 | refine below_set ?_ GE350.out | refine below_set ?_ GE357.out) | exact HB.out))) : w.heap.size ≤ gb366)); have n8_ := Aside0.mk ((by rw [hg]; exact (below_size (by repeat (first | (with_reducible first | exact HB.out | apply below_alloc | apply pw_below_drewN | apply below_drew1 | refine below_set ?_ GE350.out | refine below_set ?_ GE357.out) | exact HB.out))) : w.heap.size ≤ gb366)); have n9_ := Aside0.mk ((by rw [hg]; exact Nat.ne_of_lt (blk_lt (g := gb350) (o := .cells #[.int .i64 a0_0, .int .i64 a0_1, .slice A0_2 l0_2.length c0_2, .int .i64 a0_3] 24 (0, 0)) (by (with_reducible repeat (first | refine blk_drewN ?_ _ | refine blk_drew ?_ | refine blk_alloc ?_ _)); exact BK350.out)) : gb350 ≠ gb366)); have n10_ := Aside0.mk ((by rw [hg]; exact Nat.ne_of_gt (blk_lt (g := gb350) (o := .cells #[.int .i64 a0_0, .int .i64 a0_1, .slice A0_2 l0_2.length c0_2, .int .i64 a0_3] 24 (0, 0)) (by (with_reducible repeat (first | refine blk_drewN ?_ _ | refine blk_drew ?_ | refine blk_alloc ?_ _)); exact BK350.out)) : gb366 ≠ gb350)); have n11_ := Aside0.mk ((by rw [hg]; exact Nat.ne_of_lt (blk_lt (g := gb357) (o := .cells #[.int .i64 a0_0, .int .i64 a0_1, .slice Ao26 y358.length co26, .int .i64 a0_3] 24 (0, 0)) (by (with_reducible repeat (first | refine blk_drewN ?_ _ | refine blk_drew ?_ | refine blk_alloc ?_ _)); exact BK357.out)) : gb357 ≠ gb366)); have n12_ := Aside0.mk ((by rw [hg]; exact Nat.ne_of_gt (blk_lt (g := gb357) (o := .cells #[.int .i64 a0_0, .int .i64 a0_1, .slice Ao26 y358.length co26, .int .i64 a0_3] 24 (0, 0)) (by (with_reducible repeat (first | refine blk_drewN ?_ _ | refine blk_drew ?_ | refine blk_alloc ?_ _)); exact BK357.out)) : gb366 ≠ gb357)); clear HO_5; clear HO_38; clear HO_358002; clear BK350; clear BK357; clear HB; have HO_5 := n0_; have HO_38 := n1_; have HO_358002 := n2_; have BK350 := n3_; have BK357 := n4_; have HB := n5_; have BK366 := n6_; have GW366 := n7_; have GE366 := n8_; have NB350_366 := n9_; have NB366_350 := n10_; have NB357_366 := n11_; have NB366_357 := n12_; clear n0_ n1_ n2_ n3_ n4_ n5_ n6_ n7_ n8_ n9_ n10_ n11_ n12_; clear hb hbox hg; have hnb34 := NB366_350.out; have hnc34 := NB350_366.out; have hnb35 := NB366_357.out; have hnc35 := NB357_366.out; have hcz36_0 : w33.cell? ⟨gb366, 0, none⟩ = some (.int .i64 0) := (blk_cell BK366.out 0).trans rfl; have hcz36_1 : w33.cell? ⟨gb366, 1, none⟩ = some (.int .i64 0) := (blk_cell BK366.out 1).trans rfl; have hcz36_2 : w33.cell? ⟨gb366, 2, none⟩ = some (.int .i64 0) := (blk_cell BK366.out 2).trans rfl; have hcz36_3 : w33.cell? ⟨gb366, 3, none⟩ = some (.int .i64 0) := (blk_cell BK366.out 3).trans rfl; have hfz36_0 := blk_frozen BK366.out 0; have hfz36_1 := blk_frozen BK366.out 1; have hfz36_2 := blk_frozen BK366.out 2; have hfz36_3 := blk_frozen BK366.out 3)))
                  go_roundg k1
                  case measure => have := HK1.out; omega
                  case rel => exact ⟨(wrap64 (x10_1 + ((rd_T43 t361 x40_1).f1))), (wrap64 (x40_1 + 1)), (by first | rfl | (simp; done) | (simp [*]; done)), (by first | rfl | (simp; done) | (simp [*]; done)), H', ⟨by have := HK1.out; omega⟩, ⟨by (with_reducible repeat (first | apply Kd.R_alloc | apply Kd.R_drewN | apply Kd.R_drew)); exact Kd.R_mono (Kd.R_far (p := ⟨gb366, 3, none⟩) (Kd.R_far (p := ⟨gb366, 2, none⟩) (Kd.R_far (p := ⟨gb366, 1, none⟩) (Kd.R_far (p := ⟨gb366, 0, none⟩) (Kd.R_mono HO_5.out (fun k_ hk => (⟨hk, hk.2⟩ : _ ∧ k_ ≠ gb366))) (fun _ hk => hk.2) (.int .i64 ((rd_T43 t361 x40_1).f0))) (fun _ hk => hk.2) (.int .i64 ((rd_T43 t361 x40_1).f1))) (fun _ hk => hk.2) (.int .i64 ((rd_T43 t361 x40_1).f2))) (fun _ hk => hk.2) (.int .i64 ((rd_T43 t361 x40_1).f3))) (fun _ hk => hk.1.1)⟩, ⟨by (with_reducible repeat (first | apply Kd.R_alloc | apply Kd.R_drewN | apply Kd.R_drew)); exact Kd.R_mono (Kd.R_far (p := ⟨gb366, 3, none⟩) (Kd.R_far (p := ⟨gb366, 2, none⟩) (Kd.R_far (p := ⟨gb366, 1, none⟩) (Kd.R_far (p := ⟨gb366, 0, none⟩) (Kd.R_mono HO_38.out (fun k_ hk => (⟨hk, hk.2⟩ : _ ∧ k_ ≠ gb366))) (fun _ hk => hk.2) (.int .i64 ((rd_T43 t361 x40_1).f0))) (fun _ hk => hk.2) (.int .i64 ((rd_T43 t361 x40_1).f1))) (fun _ hk => hk.2) (.int .i64 ((rd_T43 t361 x40_1).f2))) (fun _ hk => hk.2) (.int .i64 ((rd_T43 t361 x40_1).f3))) (fun _ hk => hk.1.1)⟩, ⟨by (with_reducible repeat (first | apply Kd.R_alloc | apply Kd.R_drewN | apply Kd.R_drew)); exact Kd.R_mono (Kd.R_far (p := ⟨gb366, 3, none⟩) (Kd.R_far (p := ⟨gb366, 2, none⟩) (Kd.R_far (p := ⟨gb366, 1, none⟩) (Kd.R_far (p := ⟨gb366, 0, none⟩) (Kd.R_types HO_358002.out BK366.out (by decide)) (fun _ hk => hk.2) (.int .i64 ((rd_T43 t361 x40_1).f0))) (fun _ hk => hk.2) (.int .i64 ((rd_T43 t361 x40_1).f1))) (fun _ hk => hk.2) (.int .i64 ((rd_T43 t361 x40_1).f2))) (fun _ hk => hk.2) (.int .i64 ((rd_T43 t361 x40_1).f3))) (fun _ hk => trivial)⟩, ⟨by (with_reducible repeat (first | refine blk_drewN ?_ _ | refine blk_drew ?_ | refine blk_alloc ?_ _)); refine blk_far ?_ NB350_366.out _; (with_reducible repeat (first | refine blk_drewN ?_ _ | refine blk_drew ?_ | refine blk_alloc ?_ _)); refine blk_far ?_ NB350_366.out _; (with_reducible repeat (first | refine blk_drewN ?_ _ | refine blk_drew ?_ | refine blk_alloc ?_ _)); refine blk_far ?_ NB350_366.out _; (with_reducible repeat (first | refine blk_drewN ?_ _ | refine blk_drew ?_ | refine blk_alloc ?_ _)); refine blk_far ?_ NB350_366.out _; (with_reducible repeat (first | refine blk_drewN ?_ _ | refine blk_drew ?_ | refine blk_alloc ?_ _)); exact BK350.out⟩, ⟨by (with_reducible repeat (first | refine blk_drewN ?_ _ | refine blk_drew ?_ | refine blk_alloc ?_ _)); refine blk_far ?_ NB357_366.out _; (with_reducible repeat (first | refine blk_drewN ?_ _ | refine blk_drew ?_ | refine blk_alloc ?_ _)); refine blk_far ?_ NB357_366.out _; (with_reducible repeat (first | refine blk_drewN ?_ _ | refine blk_drew ?_ | refine blk_alloc ?_ _)); refine blk_far ?_ NB357_366.out _; (with_reducible repeat (first | refine blk_drewN ?_ _ | refine blk_drew ?_ | refine blk_alloc ?_ _)); refine blk_far ?_ NB357_366.out _; (with_reducible repeat (first | refine blk_drewN ?_ _ | refine blk_drew ?_ | refine blk_alloc ?_ _)); exact BK357.out⟩, ⟨by repeat (first | (with_reducible first | exact HB.out | apply below_alloc | apply pw_below_drewN | apply below_drew1 | refine below_set ?_ GE350.out | refine below_set ?_ GE357.out | refine below_set ?_ GE366.out) | exact HB.out)⟩⟩
                · rw [if_neg c32] at H
                  exact absurd H (by simp)
              · rw [if_neg c31] at H
                exact absurd H (by simp)
            · rw [if_neg c30] at H
              have c30b0 : decide (x40_1 < (t361.length : Int)) = false := decide_eq_false c30
              clear c30
              have HC37 := Aside0.mk H
              clear H
              go_upto_region 17 with (fail)
              repeat (go_quiet (fail); go_upto_region 17 with (fail))
              go_cut [56] (fun v56 wc => ∃ (kq : Nat) (x56_36 : Bool), v56 = .bool x56_36 ∧ Aside0 (lombardlaw08_SchedRates.j1 kq a1 t353 x56_36 a0_0 a0_1 l0_2 a0_3 = some r) ∧ Aside0 (kq ≤ k1) ∧ Aside0 (Kd.R k43 43 wc w.heap.size (fun _ => True) v354 t353) ∧ Aside0 (Kd.R (Kd.int .i64) 2 wc w.heap.size (fun _ => True) (.slice Ao26 y358.length co26) y358) ∧ Aside0 (wc.heap[gb350]? = some (.cells #[.int .i64 a0_0, .int .i64 a0_1, (.slice A0_2 l0_2.length c0_2), .int .i64 a0_3] 24 (0, 0))) ∧ Aside0 (wc.heap[gb357]? = some (.cells #[.int .i64 a0_0, .int .i64 a0_1, (.slice Ao26 y358.length co26), .int .i64 a0_3] 24 (0, 0))) ∧ Aside0 (Below w.heap.size w wc))
              case first =>
                have H := HC37.out
                clear HC37
                by_cases c38 : t364 = 0
                · rw [if_pos c38] at H
                  have c38b0 : (t364 == 0) = true := beq_iff_eq.mpr c38
                  have c38b1 : (t364 != 0) = false := bne_eq_false_iff_eq.mpr c38
                  clear c38
                  (first | rw [c38b0] | (simp only [i64_w, i32_w]; rw [c38b0]) | skip)
                  have H' := Aside0.mk H
                  clear H
                  have hnb39 := NB350_357.out
                  have hnc39 := NB357_350.out
                  have hcz40_0 : wr.cell? ⟨gb350, 0, none⟩ = some (.int .i64 a0_0) := (blk_cell BK350.out 0).trans rfl
                  have hcz40_1 : wr.cell? ⟨gb350, 1, none⟩ = some (.int .i64 a0_1) := (blk_cell BK350.out 1).trans rfl
                  have hcz40_2 : wr.cell? ⟨gb350, 2, none⟩ = some (.slice A0_2 l0_2.length c0_2) := (blk_cell BK350.out 2).trans rfl
                  have hcz40_3 : wr.cell? ⟨gb350, 3, none⟩ = some (.int .i64 a0_3) := (blk_cell BK350.out 3).trans rfl
                  have hfz40_0 := blk_frozen BK350.out 0
                  have hfz40_1 := blk_frozen BK350.out 1
                  have hfz40_2 := blk_frozen BK350.out 2
                  have hfz40_3 := blk_frozen BK350.out 3
                  go_wp2
                  repeat (go_quiet (fail); try go_wp2)
                  go_meet
                  case rel => exact ⟨_, ((x10_1 != a0_1)), (by first | rfl | (simp; done) | (simp [*]; done)), H', ⟨by have := HK1.out; first | omega | exact Nat.le_refl _⟩, ⟨by (with_reducible repeat (first | apply Kd.R_alloc | apply Kd.R_drewN | apply Kd.R_drew)); exact Kd.R_mono HO_5.out (fun _ hk => trivial)⟩, ⟨by (with_reducible repeat (first | apply Kd.R_alloc | apply Kd.R_drewN | apply Kd.R_drew)); exact HO_358002.out⟩, ⟨by (with_reducible repeat (first | refine blk_drewN ?_ _ | refine blk_drew ?_ | refine blk_alloc ?_ _)); exact BK350.out⟩, ⟨by (with_reducible repeat (first | refine blk_drewN ?_ _ | refine blk_drew ?_ | refine blk_alloc ?_ _)); exact BK357.out⟩, ⟨by repeat (first | (with_reducible first | exact HB.out | apply below_alloc | apply pw_below_drewN | apply below_drew1 | refine below_set ?_ GE350.out | refine below_set ?_ GE357.out) | exact HB.out)⟩⟩
                · rw [if_neg c38] at H
                  have c38b0 : (t364 == 0) = false := beq_eq_false_iff_ne.mpr c38
                  have c38b1 : (t364 != 0) = true := bne_iff_ne.mpr c38
                  (first | rw [c38b0] | (simp only [i64_w, i32_w]; rw [c38b0]) | skip)
                  have H' := Aside0.mk H
                  clear H
                  go_wp2
                  repeat (go_quiet (fail); try go_wp2)
                  go_meet
                  case rel => exact ⟨_, (true), (by first | rfl | (simp; done) | (simp [*]; done)), H', ⟨by have := HK1.out; first | omega | exact Nat.le_refl _⟩, ⟨by (with_reducible repeat (first | apply Kd.R_alloc | apply Kd.R_drewN | apply Kd.R_drew)); exact Kd.R_mono HO_5.out (fun _ hk => trivial)⟩, ⟨by (with_reducible repeat (first | apply Kd.R_alloc | apply Kd.R_drewN | apply Kd.R_drew)); exact HO_358002.out⟩, ⟨by (with_reducible repeat (first | refine blk_drewN ?_ _ | refine blk_drew ?_ | refine blk_alloc ?_ _)); exact BK350.out⟩, ⟨by (with_reducible repeat (first | refine blk_drewN ?_ _ | refine blk_drew ?_ | refine blk_alloc ?_ _)); exact BK357.out⟩, ⟨by repeat (first | (with_reducible first | exact HB.out | apply below_alloc | apply pw_below_drewN | apply below_drew1 | refine below_set ?_ GE350.out | refine below_set ?_ GE357.out) | exact HB.out)⟩⟩
              case rest =>
                clear HC37
                try clear c1
                try clear c2
                try clear p2
                try clear c3
                try clear p3
                try clear q3
                try clear hx3
                try clear c4
                try clear c6
                try clear p6
                try clear c8
                try clear c12
                try clear c12b0
                try clear c12b1
                try clear c22
                try clear c30
                try clear c30b0
                try clear c31
                try clear c31b0
                try clear c32
                try clear c32b0
                try clear c34
                try clear c35
                try clear p36
                try clear q36
                try clear hx36
                try clear c38
                try clear c38b0
                try clear c38b1
                try clear c39
                try clear hcz16_0
                try clear hcz16_1
                try clear hcz16_2
                try clear hcz16_3
                try clear hcz18_0
                try clear hcz18_1
                try clear hcz18_2
                try clear hcz18_3
                try clear hcz20_0
                try clear hcz20_1
                try clear hcz20_2
                try clear hcz20_3
                try clear hcz23_0
                try clear hcz23_1
                try clear hcz23_2
                try clear hcz23_3
                try clear hcz27_0
                try clear hcz27_1
                try clear hcz27_2
                try clear hcz27_3
                try clear hcz36_0
                try clear hcz36_1
                try clear hcz36_2
                try clear hcz36_3
                try clear hcz40_0
                try clear hcz40_1
                try clear hcz40_2
                try clear hcz40_3
                try clear hcz9_0
                try clear hcz9_1
                try clear hcz9_2
                try clear hcz9_3
                try clear hfz16_0
                try clear hfz16_1
                try clear hfz16_2
                try clear hfz16_3
                try clear hfz18_0
                try clear hfz18_1
                try clear hfz18_2
                try clear hfz18_3
                try clear hfz20_0
                try clear hfz20_1
                try clear hfz20_2
                try clear hfz20_3
                try clear hfz23_0
                try clear hfz23_1
                try clear hfz23_2
                try clear hfz23_3
                try clear hfz27_0
                try clear hfz27_1
                try clear hfz27_2
                try clear hfz27_3
                try clear hfz36_0
                try clear hfz36_1
                try clear hfz36_2
                try clear hfz36_3
                try clear hfz40_0
                try clear hfz40_1
                try clear hfz40_2
                try clear hfz40_3
                try clear hfz9_0
                try clear hfz9_1
                try clear hfz9_2
                try clear hfz9_3
                try clear hx365_0
                try clear hx365_1
                try clear hx365_2
                try clear hx365_3
                try clear p2
                try clear p365
                try clear q365
                obtain ⟨kq, x56_36, rfl, HA, HJ36, HO_5, HO_358002, BK350, BK357, HB⟩ := hcut
                cases kq with
                | zero => exact absurd HA.out (by simp [lombardlaw08_SchedRates.j1])
                | succ kj36 =>
                  have H := HA.out
                  clear HA
                  simp only [lombardlaw08_SchedRates.j1] at H
                  by_cases c41 : x56_36 = true
                  · subst c41
                    have H1 : (some false) = some r := by rw [if_pos rfl] at H; exact H
                    clear H
                    have H := H1
                    clear H1
                    obtain rfl := Option.some.inj H
                    go_wp2
                    repeat (go_quiet (fail); try go_wp2)
                    go_ret
                    exact ⟨by first | rfl | (simp [errW_none, errW_some] <;> rfl) | (simp [*, errW_none, errW_some] <;> rfl), by repeat (first | (with_reducible first | exact HB.out | apply below_alloc | apply pw_below_drewN | apply below_drew1 | refine below_set ?_ GE350.out | refine below_set ?_ GE357.out) | exact HB.out)⟩
                  · replace c41 := Bool.eq_false_iff.mpr c41
                    subst c41
                    have H1 : (lombardlaw08_SchedRates.l1 kj36 a1 t353 l0_2 (l0_2.length : Int) 0 a0_0 a0_1 l0_2 a0_3 a0_0 a0_1 ([] : List Int) a0_3) = some r := by rw [if_neg (show ¬ (false = true) by decide)] at H; exact H
                    clear H
                    have H := H1
                    clear H1
                    have H' := Aside0.mk H
                    clear H
                    have hnb42 := NB350_357.out
                    have hnc42 := NB357_350.out
                    have hcz43_0 : wc.cell? ⟨gb350, 0, none⟩ = some (.int .i64 a0_0) := (blk_cell BK350.out 0).trans rfl
                    have hcz43_1 : wc.cell? ⟨gb350, 1, none⟩ = some (.int .i64 a0_1) := (blk_cell BK350.out 1).trans rfl
                    have hcz43_2 : wc.cell? ⟨gb350, 2, none⟩ = some (.slice A0_2 l0_2.length c0_2) := (blk_cell BK350.out 2).trans rfl
                    have hcz43_3 : wc.cell? ⟨gb350, 3, none⟩ = some (.int .i64 a0_3) := (blk_cell BK350.out 3).trans rfl
                    have hfz43_0 := blk_frozen BK350.out 0
                    have hfz43_1 := blk_frozen BK350.out 1
                    have hfz43_2 := blk_frozen BK350.out 2
                    have hfz43_3 := blk_frozen BK350.out 3
                    go_wp2_with (first | ((with_reducible refine gate_dst (N := 13) rfl ?_); refine box_event ?hg (N := 13) ?hd (cs := #[.int .i64 0, .int .i64 0, .slice none 0 0, .int .i64 0]) (t := 24) ?hr ?_; (case hd => rfl); (case hg => rfl); (case hr => first | (go_simp; done) | (go_simp; rfl)); intro gb367 hg w44 hbox hb; have n0_ := Aside0.mk (Kd.R_below (by (with_reducible repeat (first | apply Kd.R_alloc | apply Kd.R_drewN | apply Kd.R_drew)); exact HO_5.out) hb); have n1_ := Aside0.mk (Kd.R_below (by (with_reducible repeat (first | apply Kd.R_alloc | apply Kd.R_drewN | apply Kd.R_drew)); exact HO_358002.out) hb); have n2_ := Aside0.mk (blk_below (g := gb350) (o := .cells #[.int .i64 a0_0, .int .i64 a0_1, .slice A0_2 l0_2.length c0_2, .int .i64 a0_3] 24 (0, 0)) (by (with_reducible repeat (first | refine blk_drewN ?_ _ | refine blk_drew ?_ | refine blk_alloc ?_ _)); exact BK350.out) hb); have n3_ := Aside0.mk (blk_below (g := gb357) (o := .cells #[.int .i64 a0_0, .int .i64 a0_1, .slice Ao26 y358.length co26, .int .i64 a0_3] 24 (0, 0)) (by (with_reducible repeat (first | refine blk_drewN ?_ _ | refine blk_drew ?_ | refine blk_alloc ?_ _)); exact BK357.out) hb); have n4_ := Aside0.mk (below_step (by repeat (first | (with_reducible first | exact HB.out | apply below_alloc | apply pw_below_drewN | apply below_drew1 | refine below_set ?_ GE350.out | refine below_set ?_ GE357.out) | exact HB.out)) hb); have n5_ := Aside0.mk (hbox); have n6_ := Aside0.mk ((by rw [hg]; exact (below_size (by repeat (first | (with_reducible first | exact HB.out | apply below_alloc | apply pw_below_drewN | apply below_drew1 | refine below_set ?_ GE350.out | refine below_set ?_ GE357.out) | exact HB.out))) : w.heap.size ≤ gb367)); have n7_ := Aside0.mk ((by rw [hg]; exact (below_size (by repeat (first | (with_reducible first | exact HB.out | apply below_alloc | apply pw_below_drewN | apply below_drew1 | refine below_set ?_ GE350.out | refine below_set ?_ GE357.out) | exact HB.out))) : w.heap.size ≤ gb367)); have n8_ := Aside0.mk ((by rw [hg]; exact Nat.ne_of_lt (blk_lt (g := gb350) (o := .cells #[.int .i64 a0_0, .int .i64 a0_1, .slice A0_2 l0_2.length c0_2, .int .i64 a0_3] 24 (0, 0)) (by (with_reducible repeat (first | refine blk_drewN ?_ _ | refine blk_drew ?_ | refine blk_alloc ?_ _)); exact BK350.out)) : gb350 ≠ gb367)); have n9_ := Aside0.mk ((by rw [hg]; exact Nat.ne_of_gt (blk_lt (g := gb350) (o := .cells #[.int .i64 a0_0, .int .i64 a0_1, .slice A0_2 l0_2.length c0_2, .int .i64 a0_3] 24 (0, 0)) (by (with_reducible repeat (first | refine blk_drewN ?_ _ | refine blk_drew ?_ | refine blk_alloc ?_ _)); exact BK350.out)) : gb367 ≠ gb350)); have n10_ := Aside0.mk ((by rw [hg]; exact Nat.ne_of_lt (blk_lt (g := gb357) (o := .cells #[.int .i64 a0_0, .int .i64 a0_1, .slice Ao26 y358.length co26, .int .i64 a0_3] 24 (0, 0)) (by (with_reducible repeat (first | refine blk_drewN ?_ _ | refine blk_drew ?_ | refine blk_alloc ?_ _)); exact BK357.out)) : gb357 ≠ gb367)); have n11_ := Aside0.mk ((by rw [hg]; exact Nat.ne_of_gt (blk_lt (g := gb357) (o := .cells #[.int .i64 a0_0, .int .i64 a0_1, .slice Ao26 y358.length co26, .int .i64 a0_3] 24 (0, 0)) (by (with_reducible repeat (first | refine blk_drewN ?_ _ | refine blk_drew ?_ | refine blk_alloc ?_ _)); exact BK357.out)) : gb367 ≠ gb357)); clear HO_5; clear HO_358002; clear BK350; clear BK357; clear HB; have HO_5 := n0_; have HO_358002 := n1_; have BK350 := n2_; have BK357 := n3_; have HB := n4_; have BK367 := n5_; have GW367 := n6_; have GE367 := n7_; have NB350_367 := n8_; have NB367_350 := n9_; have NB357_367 := n10_; have NB367_357 := n11_; clear n0_ n1_ n2_ n3_ n4_ n5_ n6_ n7_ n8_ n9_ n10_ n11_; clear hb hbox hg; have hnb45 := NB367_350.out; have hnc45 := NB350_367.out; have hnb46 := NB367_357.out; have hnc46 := NB357_367.out; have hcz47_0 : w44.cell? ⟨gb367, 0, none⟩ = some (.int .i64 0) := (blk_cell BK367.out 0).trans rfl; have hcz47_1 : w44.cell? ⟨gb367, 1, none⟩ = some (.int .i64 0) := (blk_cell BK367.out 1).trans rfl; have hcz47_2 : w44.cell? ⟨gb367, 2, none⟩ = some (.slice none 0 0) := (blk_cell BK367.out 2).trans rfl; have hcz47_3 : w44.cell? ⟨gb367, 3, none⟩ = some (.int .i64 0) := (blk_cell BK367.out 3).trans rfl; have hfz47_0 := blk_frozen BK367.out 0; have hfz47_1 := blk_frozen BK367.out 1; have hfz47_2 := blk_frozen BK367.out 2; have hfz47_3 := blk_frozen BK367.out 3; have hcz48_0 : w44.cell? ⟨gb350, 0, none⟩ = some (.int .i64 a0_0) := (blk_cell BK350.out 0).trans rfl; have hcz48_1 : w44.cell? ⟨gb350, 1, none⟩ = some (.int .i64 a0_1) := (blk_cell BK350.out 1).trans rfl; have hcz48_2 : w44.cell? ⟨gb350, 2, none⟩ = some (.slice A0_2 l0_2.length c0_2) := (blk_cell BK350.out 2).trans rfl; have hcz48_3 : w44.cell? ⟨gb350, 3, none⟩ = some (.int .i64 a0_3) := (blk_cell BK350.out 3).trans rfl; have hfz48_0 := blk_frozen BK350.out 0; have hfz48_1 := blk_frozen BK350.out 1; have hfz48_2 := blk_frozen BK350.out 2; have hfz48_3 := blk_frozen BK350.out 3))
                    repeat (go_quiet (first | ((with_reducible refine gate_dst (N := 13) rfl ?_); refine box_event ?hg (N := 13) ?hd (cs := #[.int .i64 0, .int .i64 0, .slice none 0 0, .int .i64 0]) (t := 24) ?hr ?_; (case hd => rfl); (case hg => rfl); (case hr => first | (go_simp; done) | (go_simp; rfl)); intro gb367 hg w44 hbox hb; have n0_ := Aside0.mk (Kd.R_below (by (with_reducible repeat (first | apply Kd.R_alloc | apply Kd.R_drewN | apply Kd.R_drew)); exact HO_5.out) hb); have n1_ := Aside0.mk (Kd.R_below (by (with_reducible repeat (first | apply Kd.R_alloc | apply Kd.R_drewN | apply Kd.R_drew)); exact HO_358002.out) hb); have n2_ := Aside0.mk (blk_below (g := gb350) (o := .cells #[.int .i64 a0_0, .int .i64 a0_1, .slice A0_2 l0_2.length c0_2, .int .i64 a0_3] 24 (0, 0)) (by (with_reducible repeat (first | refine blk_drewN ?_ _ | refine blk_drew ?_ | refine blk_alloc ?_ _)); exact BK350.out) hb); have n3_ := Aside0.mk (blk_below (g := gb357) (o := .cells #[.int .i64 a0_0, .int .i64 a0_1, .slice Ao26 y358.length co26, .int .i64 a0_3] 24 (0, 0)) (by (with_reducible repeat (first | refine blk_drewN ?_ _ | refine blk_drew ?_ | refine blk_alloc ?_ _)); exact BK357.out) hb); have n4_ := Aside0.mk (below_step (by repeat (first | (with_reducible first | exact HB.out | apply below_alloc | apply pw_below_drewN | apply below_drew1 | refine below_set ?_ GE350.out | refine below_set ?_ GE357.out) | exact HB.out)) hb); have n5_ := Aside0.mk (hbox); have n6_ := Aside0.mk ((by rw [hg]; exact (below_size (by repeat (first | (with_reducible first | exact HB.out | apply below_alloc | apply pw_below_drewN | apply below_drew1 | refine below_set ?_ GE350.out | refine below_set ?_ GE357.out) | exact HB.out))) : w.heap.size ≤ gb367)); have n7_ := Aside0.mk ((by rw [hg]; exact (below_size (by repeat (first | (with_reducible first | exact HB.out | apply below_alloc | apply pw_below_drewN | apply below_drew1 | refine below_set ?_ GE350.out | refine below_set ?_ GE357.out) | exact HB.out))) : w.heap.size ≤ gb367)); have n8_ := Aside0.mk ((by rw [hg]; exact Nat.ne_of_lt (blk_lt (g := gb350) (o := .cells #[.int .i64 a0_0, .int .i64 a0_1, .slice A0_2 l0_2.length c0_2, .int .i64 a0_3] 24 (0, 0)) (by (with_reducible repeat (first | refine blk_drewN ?_ _ | refine blk_drew ?_ | refine blk_alloc ?_ _)); exact BK350.out)) : gb350 ≠ gb367)); have n9_ := Aside0.mk ((by rw [hg]; exact Nat.ne_of_gt (blk_lt (g := gb350) (o := .cells #[.int .i64 a0_0, .int .i64 a0_1, .slice A0_2 l0_2.length c0_2, .int .i64 a0_3] 24 (0, 0)) (by (with_reducible repeat (first | refine blk_drewN ?_ _ | refine blk_drew ?_ | refine blk_alloc ?_ _)); exact BK350.out)) : gb367 ≠ gb350)); have n10_ := Aside0.mk ((by rw [hg]; exact Nat.ne_of_lt (blk_lt (g := gb357) (o := .cells #[.int .i64 a0_0, .int .i64 a0_1, .slice Ao26 y358.length co26, .int .i64 a0_3] 24 (0, 0)) (by (with_reducible repeat (first | refine blk_drewN ?_ _ | refine blk_drew ?_ | refine blk_alloc ?_ _)); exact BK357.out)) : gb357 ≠ gb367)); have n11_ := Aside0.mk ((by rw [hg]; exact Nat.ne_of_gt (blk_lt (g := gb357) (o := .cells #[.int .i64 a0_0, .int .i64 a0_1, .slice Ao26 y358.length co26, .int .i64 a0_3] 24 (0, 0)) (by (with_reducible repeat (first | refine blk_drewN ?_ _ | refine blk_drew ?_ | refine blk_alloc ?_ _)); exact BK357.out)) : gb367 ≠ gb357)); clear HO_5; clear HO_358002; clear BK350; clear BK357; clear HB; have HO_5 := n0_; have HO_358002 := n1_; have BK350 := n2_; have BK357 := n3_; have HB := n4_; have BK367 := n5_; have GW367 := n6_; have GE367 := n7_; have NB350_367 := n8_; have NB367_350 := n9_; have NB357_367 := n10_; have NB367_357 := n11_; clear n0_ n1_ n2_ n3_ n4_ n5_ n6_ n7_ n8_ n9_ n10_ n11_; clear hb hbox hg; have hnb45 := NB367_350.out; have hnc45 := NB350_367.out; have hnb46 := NB367_357.out; have hnc46 := NB357_367.out; have hcz47_0 : w44.cell? ⟨gb367, 0, none⟩ = some (.int .i64 0) := (blk_cell BK367.out 0).trans rfl; have hcz47_1 : w44.cell? ⟨gb367, 1, none⟩ = some (.int .i64 0) := (blk_cell BK367.out 1).trans rfl; have hcz47_2 : w44.cell? ⟨gb367, 2, none⟩ = some (.slice none 0 0) := (blk_cell BK367.out 2).trans rfl; have hcz47_3 : w44.cell? ⟨gb367, 3, none⟩ = some (.int .i64 0) := (blk_cell BK367.out 3).trans rfl; have hfz47_0 := blk_frozen BK367.out 0; have hfz47_1 := blk_frozen BK367.out 1; have hfz47_2 := blk_frozen BK367.out 2; have hfz47_3 := blk_frozen BK367.out 3; have hcz48_0 : w44.cell? ⟨gb350, 0, none⟩ = some (.int .i64 a0_0) := (blk_cell BK350.out 0).trans rfl; have hcz48_1 : w44.cell? ⟨gb350, 1, none⟩ = some (.int .i64 a0_1) := (blk_cell BK350.out 1).trans rfl; have hcz48_2 : w44.cell? ⟨gb350, 2, none⟩ = some (.slice A0_2 l0_2.length c0_2) := (blk_cell BK350.out 2).trans rfl; have hcz48_3 : w44.cell? ⟨gb350, 3, none⟩ = some (.int .i64 a0_3) := (blk_cell BK350.out 3).trans rfl; have hfz48_0 := blk_frozen BK350.out 0; have hfz48_1 := blk_frozen BK350.out 1; have hfz48_2 := blk_frozen BK350.out 2; have hfz48_3 := blk_frozen BK350.out 3)); try go_wp2_with (first | ((with_reducible refine gate_dst (N := 13) rfl ?_); refine box_event ?hg (N := 13) ?hd (cs := #[.int .i64 0, .int .i64 0, .slice none 0 0, .int .i64 0]) (t := 24) ?hr ?_; (case hd => rfl); (case hg => rfl); (case hr => first | (go_simp; done) | (go_simp; rfl)); intro gb367 hg w44 hbox hb; have n0_ := Aside0.mk (Kd.R_below (by (with_reducible repeat (first | apply Kd.R_alloc | apply Kd.R_drewN | apply Kd.R_drew)); exact HO_5.out) hb); have n1_ := Aside0.mk (Kd.R_below (by (with_reducible repeat (first | apply Kd.R_alloc | apply Kd.R_drewN | apply Kd.R_drew)); exact HO_358002.out) hb); have n2_ := Aside0.mk (blk_below (g := gb350) (o := .cells #[.int .i64 a0_0, .int .i64 a0_1, .slice A0_2 l0_2.length c0_2, .int .i64 a0_3] 24 (0, 0)) (by (with_reducible repeat (first | refine blk_drewN ?_ _ | refine blk_drew ?_ | refine blk_alloc ?_ _)); exact BK350.out) hb); have n3_ := Aside0.mk (blk_below (g := gb357) (o := .cells #[.int .i64 a0_0, .int .i64 a0_1, .slice Ao26 y358.length co26, .int .i64 a0_3] 24 (0, 0)) (by (with_reducible repeat (first | refine blk_drewN ?_ _ | refine blk_drew ?_ | refine blk_alloc ?_ _)); exact BK357.out) hb); have n4_ := Aside0.mk (below_step (by repeat (first | (with_reducible first | exact HB.out | apply below_alloc | apply pw_below_drewN | apply below_drew1 | refine below_set ?_ GE350.out | refine below_set ?_ GE357.out) | exact HB.out)) hb); have n5_ := Aside0.mk (hbox); have n6_ := Aside0.mk ((by rw [hg]; exact (below_size (by repeat (first | (with_reducible first | exact HB.out | apply below_alloc | apply pw_below_drewN | apply below_drew1 | refine below_set ?_ GE350.out | refine below_set ?_ GE357.out) | exact HB.out))) : w.heap.size ≤ gb367)); have n7_ := Aside0.mk ((by rw [hg]; exact (below_size (by repeat (first | (with_reducible first | exact HB.out | apply below_alloc | apply pw_below_drewN | apply below_drew1 | refine below_set ?_ GE350.out | refine below_set ?_ GE357.out) | exact HB.out))) : w.heap.size ≤ gb367)); have n8_ := Aside0.mk ((by rw [hg]; exact Nat.ne_of_lt (blk_lt (g := gb350) (o := .cells #[.int .i64 a0_0, .int .i64 a0_1, .slice A0_2 l0_2.length c0_2, .int .i64 a0_3] 24 (0, 0)) (by (with_reducible repeat (first | refine blk_drewN ?_ _ | refine blk_drew ?_ | refine blk_alloc ?_ _)); exact BK350.out)) : gb350 ≠ gb367)); have n9_ := Aside0.mk ((by rw [hg]; exact Nat.ne_of_gt (blk_lt (g := gb350) (o := .cells #[.int .i64 a0_0, .int .i64 a0_1, .slice A0_2 l0_2.length c0_2, .int .i64 a0_3] 24 (0, 0)) (by (with_reducible repeat (first | refine blk_drewN ?_ _ | refine blk_drew ?_ | refine blk_alloc ?_ _)); exact BK350.out)) : gb367 ≠ gb350)); have n10_ := Aside0.mk ((by rw [hg]; exact Nat.ne_of_lt (blk_lt (g := gb357) (o := .cells #[.int .i64 a0_0, .int .i64 a0_1, .slice Ao26 y358.length co26, .int .i64 a0_3] 24 (0, 0)) (by (with_reducible repeat (first | refine blk_drewN ?_ _ | refine blk_drew ?_ | refine blk_alloc ?_ _)); exact BK357.out)) : gb357 ≠ gb367)); have n11_ := Aside0.mk ((by rw [hg]; exact Nat.ne_of_gt (blk_lt (g := gb357) (o := .cells #[.int .i64 a0_0, .int .i64 a0_1, .slice Ao26 y358.length co26, .int .i64 a0_3] 24 (0, 0)) (by (with_reducible repeat (first | refine blk_drewN ?_ _ | refine blk_drew ?_ | refine blk_alloc ?_ _)); exact BK357.out)) : gb367 ≠ gb357)); clear HO_5; clear HO_358002; clear BK350; clear BK357; clear HB; have HO_5 := n0_; have HO_358002 := n1_; have BK350 := n2_; have BK357 := n3_; have HB := n4_; have BK367 := n5_; have GW367 := n6_; have GE367 := n7_; have NB350_367 := n8_; have NB367_350 := n9_; have NB357_367 := n10_; have NB367_357 := n11_; clear n0_ n1_ n2_ n3_ n4_ n5_ n6_ n7_ n8_ n9_ n10_ n11_; clear hb hbox hg; have hnb45 := NB367_350.out; have hnc45 := NB350_367.out; have hnb46 := NB367_357.out; have hnc46 := NB357_367.out; have hcz47_0 : w44.cell? ⟨gb367, 0, none⟩ = some (.int .i64 0) := (blk_cell BK367.out 0).trans rfl; have hcz47_1 : w44.cell? ⟨gb367, 1, none⟩ = some (.int .i64 0) := (blk_cell BK367.out 1).trans rfl; have hcz47_2 : w44.cell? ⟨gb367, 2, none⟩ = some (.slice none 0 0) := (blk_cell BK367.out 2).trans rfl; have hcz47_3 : w44.cell? ⟨gb367, 3, none⟩ = some (.int .i64 0) := (blk_cell BK367.out 3).trans rfl; have hfz47_0 := blk_frozen BK367.out 0; have hfz47_1 := blk_frozen BK367.out 1; have hfz47_2 := blk_frozen BK367.out 2; have hfz47_3 := blk_frozen BK367.out 3; have hcz48_0 : w44.cell? ⟨gb350, 0, none⟩ = some (.int .i64 a0_0) := (blk_cell BK350.out 0).trans rfl; have hcz48_1 : w44.cell? ⟨gb350, 1, none⟩ = some (.int .i64 a0_1) := (blk_cell BK350.out 1).trans rfl; have hcz48_2 : w44.cell? ⟨gb350, 2, none⟩ = some (.slice A0_2 l0_2.length c0_2) := (blk_cell BK350.out 2).trans rfl; have hcz48_3 : w44.cell? ⟨gb350, 3, none⟩ = some (.int .i64 a0_3) := (blk_cell BK350.out 3).trans rfl; have hfz48_0 := blk_frozen BK350.out 0; have hfz48_1 := blk_frozen BK350.out 1; have hfz48_2 := blk_frozen BK350.out 2; have hfz48_3 := blk_frozen BK350.out 3)))
                    go_loopg [62] kj36 (fun kq v62 w' => ∃ (x62_3 : Int) (x368002_3 : List Int) (u368002 : Value), v62 = .int .i64 x62_3 ∧ Aside0 (lombardlaw08_SchedRates.l1 kq a1 t353 l0_2 (l0_2.length : Int) x62_3 a0_0 a0_1 l0_2 a0_3 a0_0 a0_1 x368002_3 a0_3 = some r) ∧ Aside0 (kq ≤ kj36) ∧ Aside0 (Kd.R k43 43 w' w.heap.size (fun _ => True) v354 t353) ∧ Aside0 (Kd.R (Kd.int .i64) 2 w' w.heap.size (fun k_ => some k_ ≠ (u368002 : Value).ownBlock) (.slice Ao26 y358.length co26) y358) ∧ Aside0 (Kd.R (Kd.int .i64) 2 w' w.heap.size (fun k_ => some k_ ≠ ((.slice Ao26 y358.length co26) : Value).ownBlock) u368002 x368002_3) ∧ Aside0 (w'.heap[gb350]? = some (.cells #[.int .i64 a0_0, .int .i64 a0_1, (.slice A0_2 l0_2.length c0_2), .int .i64 a0_3] 24 (0, 0))) ∧ Aside0 (w'.heap[gb357]? = some (.cells #[.int .i64 a0_0, .int .i64 a0_1, (.slice Ao26 y358.length co26), .int .i64 a0_3] 24 (0, 0))) ∧ Aside0 (w'.heap[gb367]? = some (.cells #[.int .i64 a0_0, .int .i64 a0_1, u368002, .int .i64 a0_3] 24 (0, 0))) ∧ Aside0 (Below w.heap.size w w'))
                    case atStart => exact ⟨(0), (([] : List Int)), (.slice none 0 0), (by first | rfl | (simp; done) | (simp [*]; done)), H', ⟨Nat.le_refl _⟩, ⟨by (with_reducible repeat (first | apply Kd.R_alloc | apply Kd.R_drewN | apply Kd.R_drew)); exact Kd.R_mono (Kd.R_far (p := ⟨gb367, 2, none⟩) (Kd.R_far (p := ⟨gb367, 3, none⟩) (Kd.R_far (p := ⟨gb367, 2, none⟩) (Kd.R_far (p := ⟨gb367, 1, none⟩) (Kd.R_far (p := ⟨gb367, 0, none⟩) (Kd.R_types HO_5.out BK367.out (by decide)) (fun _ hk => hk.2) (.int .i64 a0_0)) (fun _ hk => hk.2) (.int .i64 a0_1)) (fun _ hk => hk.2) (.slice A0_2 l0_2.length c0_2)) (fun _ hk => hk.2) (.int .i64 a0_3)) (fun _ hk => hk.2) (.slice none 0 0)) (fun _ hk => trivial)⟩, ⟨by (with_reducible repeat (first | apply Kd.R_alloc | apply Kd.R_drewN | apply Kd.R_drew)); exact Kd.R_mono (Kd.R_far (p := ⟨gb367, 2, none⟩) (Kd.R_far (p := ⟨gb367, 3, none⟩) (Kd.R_far (p := ⟨gb367, 2, none⟩) (Kd.R_far (p := ⟨gb367, 1, none⟩) (Kd.R_far (p := ⟨gb367, 0, none⟩) (Kd.R_types HO_358002.out BK367.out (by decide)) (fun _ hk => hk.2) (.int .i64 a0_0)) (fun _ hk => hk.2) (.int .i64 a0_1)) (fun _ hk => hk.2) (.slice A0_2 l0_2.length c0_2)) (fun _ hk => hk.2) (.int .i64 a0_3)) (fun _ hk => hk.2) (.slice none 0 0)) (fun _ hk => (by simp [Value.ownBlock]))⟩, ⟨by first | exact Kd.R_nil _ _ _ _ _ | exact Kd.N_nil _ _ _ _ _ | exact Kd.V_nil _ _ _ _ _ | exact Kd.Q_nil _ _ _ _ _ | exact Kd.S_nil _ _ _ _ _⟩, ⟨by (with_reducible repeat (first | refine blk_drewN ?_ _ | refine blk_drew ?_ | refine blk_alloc ?_ _)); refine blk_far ?_ NB350_367.out _; (with_reducible repeat (first | refine blk_drewN ?_ _ | refine blk_drew ?_ | refine blk_alloc ?_ _)); refine blk_far ?_ NB350_367.out _; (with_reducible repeat (first | refine blk_drewN ?_ _ | refine blk_drew ?_ | refine blk_alloc ?_ _)); refine blk_far ?_ NB350_367.out _; (with_reducible repeat (first | refine blk_drewN ?_ _ | refine blk_drew ?_ | refine blk_alloc ?_ _)); refine blk_far ?_ NB350_367.out _; (with_reducible repeat (first | refine blk_drewN ?_ _ | refine blk_drew ?_ | refine blk_alloc ?_ _)); refine blk_far ?_ NB350_367.out _; (with_reducible repeat (first | refine blk_drewN ?_ _ | refine blk_drew ?_ | refine blk_alloc ?_ _)); exact BK350.out⟩, ⟨by (with_reducible repeat (first | refine blk_drewN ?_ _ | refine blk_drew ?_ | refine blk_alloc ?_ _)); refine blk_far ?_ NB357_367.out _; (with_reducible repeat (first | refine blk_drewN ?_ _ | refine blk_drew ?_ | refine blk_alloc ?_ _)); refine blk_far ?_ NB357_367.out _; (with_reducible repeat (first | refine blk_drewN ?_ _ | refine blk_drew ?_ | refine blk_alloc ?_ _)); refine blk_far ?_ NB357_367.out _; (with_reducible repeat (first | refine blk_drewN ?_ _ | refine blk_drew ?_ | refine blk_alloc ?_ _)); refine blk_far ?_ NB357_367.out _; (with_reducible repeat (first | refine blk_drewN ?_ _ | refine blk_drew ?_ | refine blk_alloc ?_ _)); refine blk_far ?_ NB357_367.out _; (with_reducible repeat (first | refine blk_drewN ?_ _ | refine blk_drew ?_ | refine blk_alloc ?_ _)); exact BK357.out⟩, ⟨by (with_reducible repeat (first | refine blk_drewN ?_ _ | refine blk_drew ?_ | refine blk_alloc ?_ _)); refine blk_put (cs := #[.int .i64 a0_0, .int .i64 a0_1, .slice A0_2 l0_2.length c0_2, .int .i64 a0_3]) ?_ 2 _ rfl; (with_reducible repeat (first | refine blk_drewN ?_ _ | refine blk_drew ?_ | refine blk_alloc ?_ _)); refine blk_put (cs := #[.int .i64 a0_0, .int .i64 a0_1, .slice A0_2 l0_2.length c0_2, .int .i64 0]) ?_ 3 _ rfl; (with_reducible repeat (first | refine blk_drewN ?_ _ | refine blk_drew ?_ | refine blk_alloc ?_ _)); refine blk_put (cs := #[.int .i64 a0_0, .int .i64 a0_1, .slice none 0 0, .int .i64 0]) ?_ 2 _ rfl; (with_reducible repeat (first | refine blk_drewN ?_ _ | refine blk_drew ?_ | refine blk_alloc ?_ _)); refine blk_put (cs := #[.int .i64 a0_0, .int .i64 0, .slice none 0 0, .int .i64 0]) ?_ 1 _ rfl; (with_reducible repeat (first | refine blk_drewN ?_ _ | refine blk_drew ?_ | refine blk_alloc ?_ _)); refine blk_put (cs := #[.int .i64 0, .int .i64 0, .slice none 0 0, .int .i64 0]) ?_ 0 _ rfl; (with_reducible repeat (first | refine blk_drewN ?_ _ | refine blk_drew ?_ | refine blk_alloc ?_ _)); exact BK367.out⟩, ⟨by repeat (first | (with_reducible first | exact HB.out | apply below_alloc | apply pw_below_drewN | apply below_drew1 | refine below_set ?_ GE350.out | refine below_set ?_ GE357.out | refine below_set ?_ GE367.out) | exact HB.out)⟩⟩
                    case round =>
                      clear H'
                      try clear c1
                      try clear c2
                      try clear p2
                      try clear c3
                      try clear p3
                      try clear q3
                      try clear hx3
                      try clear c4
                      try clear c6
                      try clear p6
                      try clear c8
                      try clear c12
                      try clear c12b0
                      try clear c12b1
                      try clear c22
                      try clear c30
                      try clear c30b0
                      try clear c31
                      try clear c31b0
                      try clear c32
                      try clear c32b0
                      try clear c34
                      try clear c35
                      try clear p36
                      try clear q36
                      try clear hx36
                      try clear c38
                      try clear c38b0
                      try clear c38b1
                      try clear c39
                      try clear c41
                      try clear c42
                      try clear c45
                      try clear c46
                      try clear hcz16_0
                      try clear hcz16_1
                      try clear hcz16_2
                      try clear hcz16_3
                      try clear hcz18_0
                      try clear hcz18_1
                      try clear hcz18_2
                      try clear hcz18_3
                      try clear hcz20_0
                      try clear hcz20_1
                      try clear hcz20_2
                      try clear hcz20_3
                      try clear hcz23_0
                      try clear hcz23_1
                      try clear hcz23_2
                      try clear hcz23_3
                      try clear hcz27_0
                      try clear hcz27_1
                      try clear hcz27_2
                      try clear hcz27_3
                      try clear hcz36_0
                      try clear hcz36_1
                      try clear hcz36_2
                      try clear hcz36_3
                      try clear hcz40_0
                      try clear hcz40_1
                      try clear hcz40_2
                      try clear hcz40_3
                      try clear hcz43_0
                      try clear hcz43_1
                      try clear hcz43_2
                      try clear hcz43_3
                      try clear hcz47_0
                      try clear hcz47_1
                      try clear hcz47_2
                      try clear hcz47_3
                      try clear hcz48_0
                      try clear hcz48_1
                      try clear hcz48_2
                      try clear hcz48_3
                      try clear hcz9_0
                      try clear hcz9_1
                      try clear hcz9_2
                      try clear hcz9_3
                      try clear hfz16_0
                      try clear hfz16_1
                      try clear hfz16_2
                      try clear hfz16_3
                      try clear hfz18_0
                      try clear hfz18_1
                      try clear hfz18_2
                      try clear hfz18_3
                      try clear hfz20_0
                      try clear hfz20_1
                      try clear hfz20_2
                      try clear hfz20_3
                      try clear hfz23_0
                      try clear hfz23_1
                      try clear hfz23_2
                      try clear hfz23_3
                      try clear hfz27_0
                      try clear hfz27_1
                      try clear hfz27_2
                      try clear hfz27_3
                      try clear hfz36_0
                      try clear hfz36_1
                      try clear hfz36_2
                      try clear hfz36_3
                      try clear hfz40_0
                      try clear hfz40_1
                      try clear hfz40_2
                      try clear hfz40_3
                      try clear hfz43_0
                      try clear hfz43_1
                      try clear hfz43_2
                      try clear hfz43_3
                      try clear hfz47_0
                      try clear hfz47_1
                      try clear hfz47_2
                      try clear hfz47_3
                      try clear hfz48_0
                      try clear hfz48_1
                      try clear hfz48_2
                      try clear hfz48_3
                      try clear hfz9_0
                      try clear hfz9_1
                      try clear hfz9_2
                      try clear hfz9_3
                      try clear hx365_0
                      try clear hx365_1
                      try clear hx365_2
                      try clear hx365_3
                      try clear p2
                      try clear p3
                      try clear p36
                      try clear p365
                      try clear p6
                      try clear q3
                      try clear q36
                      try clear q365
                      obtain ⟨x62_3, x368002_3, u368002, rfl, HA, HK3, HO_5, HO_358002, HO_368002, BK350, BK357, BK367, HB⟩ := hrel
                      cases gk with
                      | zero => exact absurd HA.out (by simp [lombardlaw08_SchedRates.l1])
                      | succ k3 =>
                        have H := HA.out
                        clear HA
                        simp only [lombardlaw08_SchedRates.l1] at H
                        by_cases c49 : x62_3 < (l0_2.length : Int)
                        · rw [if_pos c49] at H
                          have c49b0 : decide (x62_3 < (l0_2.length : Int)) = true := decide_eq_true c49
                          clear c49
                          by_cases c50 : 0 ≤ x62_3
                          · rw [if_pos c50] at H
                            have c50b0 : decide (0 ≤ x62_3) = true := decide_eq_true c50
                            clear c50
                            by_cases c51 : x62_3 < (l0_2.length : Int)
                            · rw [if_pos c51] at H
                              have c51b0 : decide (x62_3 < (l0_2.length : Int)) = true := decide_eq_true c51
                              clear c51
                              obtain ⟨ji52, hji52⟩ : ∃ j_ : Int, (mn (wrap64 ((rd l0_2 x62_3) + (wrap64 (a1)))) 1000000000000) = j_ := ⟨_, rfl⟩
                              replace H : (if x368002_3.length < 17592186044416 then (lombardlaw08_SchedRates.l1 k3 a1 t353 l0_2 (l0_2.length : Int) (wrap64 (x62_3 + 1)) a0_0 a0_1 l0_2 a0_3 a0_0 a0_1 (x368002_3 ++ [ji52]) a0_3) else (none)) = some r := by first | (rw [hji52] at H; exact H) | (simp only [hji52] at H ⊢; exact H)
                              have hji52_ : (if 1000000000000 < (wrap64 ((rd l0_2 x62_3) + (wrap64 (a1)))) then 1000000000000 else (wrap64 ((rd l0_2 x62_3) + (wrap64 (a1))))) = ji52 := hji52
                              by_cases c53 : x368002_3.length < 17592186044416
                              · rw [if_pos c53] at H
                                have LMc53 := Aside0.mk c53
                                clear c53
                                obtain ⟨y369, hy369⟩ : ∃ y_ : List Int, y_ = (x368002_3 ++ [ji52]) := ⟨_, rfl⟩
                                replace H : (lombardlaw08_SchedRates.l1 k3 a1 t353 l0_2 (l0_2.length : Int) (wrap64 (x62_3 + 1)) a0_0 a0_1 l0_2 a0_3 a0_0 a0_1 y369 a0_3) = some r := by first | (rw [hy369]; with_reducible exact H) | (have H2_ := (Option.bind_some _ _).symm.trans H; rw [hy369]; with_reducible exact H2_) | (have H2_ := (Option.bind_some _ _).symm.trans H; with_reducible exact H2_) | with_reducible exact H | (rw [hy369]; exact H) | exact H
                                have Ny369 := Aside0.mk hy369
                                clear hy369
                                have H' := Aside0.mk H
                                clear H
                                have p368 : 0 ≤ (x62_3 : Int) := of_decide_eq_true (by first | (with_reducible assumption) | assumption)
                                have q368 : x62_3 < (l0_2.length : Int) := of_decide_eq_true (by first | (with_reducible assumption) | assumption)
                                obtain ⟨ad368, e368, hx368_0⟩ := Kd.at_int HR0_2.out x62_3 p368 q368
                                cases e368
                                try replace hx368_0 := (HB.out.cell (World.block_lt_of_cell? w _ hx368_0)).trans hx368_0
                                replace p368 := eq_true p368
                                replace q368 := eq_true q368
                                have hnb54 := NB367_350.out
                                have hnc54 := NB350_367.out
                                have hnb55 := NB367_357.out
                                have hnc55 := NB357_367.out
                                have hcz56_0 : wr.cell? ⟨gb367, 0, none⟩ = some (.int .i64 a0_0) := (blk_cell BK367.out 0).trans rfl
                                have hcz56_1 : wr.cell? ⟨gb367, 1, none⟩ = some (.int .i64 a0_1) := (blk_cell BK367.out 1).trans rfl
                                have hcz56_2 : wr.cell? ⟨gb367, 2, none⟩ = some (u368002) := (blk_cell BK367.out 2).trans rfl
                                have hcz56_3 : wr.cell? ⟨gb367, 3, none⟩ = some (.int .i64 a0_3) := (blk_cell BK367.out 3).trans rfl
                                have hfz56_0 := blk_frozen BK367.out 0
                                have hfz56_1 := blk_frozen BK367.out 1
                                have hfz56_2 := blk_frozen BK367.out 2
                                have hfz56_3 := blk_frozen BK367.out 3
                                go_wp2_with (first | ((with_reducible refine gate_builtin (b := .append) (xs := #[.tmp 67, .tmp 73]) rfl ?_); at_builtin; refine Kd.R_append (Kd.int .i64) (w0 := w) w.heap.size rfl (.tmp 67) (.tmp 73) 22 2 (.int .i64 0) 8 rfl Try.underlying22 info2 rfl (by decide) (by omega) u368002 x368002_3 ji52 [.int .i64 ji52] (fun k_ => some k_ ≠ (.slice Ao26 y358.length co26 : Value).ownBlock) (fun _ => False) rfl rfl ?aP (fun _ hk => hk.elim) ?aF ?aO ?aB ?aS ?aL ?_; (case aP => exact rfl); (case aB => exact (by repeat (first | (with_reducible first | exact HB.out | apply below_alloc | apply pw_below_drewN | apply below_drew1 | refine below_set ?_ GE350.out | refine below_set ?_ GE357.out | refine below_set ?_ GE367.out) | exact HB.out))); (case aF => exact (fun k_ hk => Kd.fresh' (Kd.R_lt (by (with_reducible repeat (first | apply Kd.R_alloc | apply Kd.R_drewN | apply Kd.R_drew)); exact HO_358002.out)) k_ hk)); (case aO => exact (by (with_reducible repeat (first | apply Kd.R_alloc | apply Kd.R_drewN | apply Kd.R_drew)); exact HO_368002.out)); (case aS => exact (below_size (by repeat (first | (with_reducible first | exact HB.out | apply below_alloc | apply pw_below_drewN | apply below_drew1 | refine below_set ?_ GE350.out | refine below_set ?_ GE357.out | refine below_set ?_ GE367.out) | exact HB.out)))); (case aL => have := LMc53.out; omega); intro v370 w57 ho hb hg hat; rw [← Ny369.out] at ho; have n0_ := Aside0.mk (Kd.R_over' (by (with_reducible repeat (first | apply Kd.R_alloc | apply Kd.R_drewN | apply Kd.R_drew)); exact HO_5.out) (Kd.R_typed (by (with_reducible repeat (first | apply Kd.R_alloc | apply Kd.R_drewN | apply Kd.R_drew)); exact HO_368002.out)) (by decide) hg); have n1_ := Aside0.mk (Kd.R_after (ok := (fun _ => True)) (by (with_reducible repeat (first | apply Kd.R_alloc | apply Kd.R_drewN | apply Kd.R_drew)); exact Kd.R_mono HO_358002.out (fun _ hk => ⟨trivial, hk⟩)) hg hat); have n2_ := Aside0.mk (blk_grown (g := gb350) (o := .cells #[.int .i64 a0_0, .int .i64 a0_1, .slice (some ad368) l0_2.length c0_2, .int .i64 a0_3] 24 (0, 0)) (by (with_reducible repeat (first | refine blk_drewN ?_ _ | refine blk_drew ?_ | refine blk_alloc ?_ _)); exact BK350.out) hg (Kd.R_ne HO_368002.out BK350.out (by decide))); have n3_ := Aside0.mk (blk_grown (g := gb357) (o := .cells #[.int .i64 a0_0, .int .i64 a0_1, .slice Ao26 y358.length co26, .int .i64 a0_3] 24 (0, 0)) (by (with_reducible repeat (first | refine blk_drewN ?_ _ | refine blk_drew ?_ | refine blk_alloc ?_ _)); exact BK357.out) hg (Kd.R_ne HO_368002.out BK357.out (by decide))); have n4_ := Aside0.mk (blk_grown (g := gb367) (o := .cells #[.int .i64 a0_0, .int .i64 a0_1, u368002, .int .i64 a0_3] 24 (0, 0)) (by (with_reducible repeat (first | refine blk_drewN ?_ _ | refine blk_drew ?_ | refine blk_alloc ?_ _)); exact BK367.out) hg (Kd.R_ne HO_368002.out BK367.out (by decide))); have n5_ := Aside0.mk (hb); have n6_ := Aside0.mk (ho); clear HO_5; clear HO_358002; clear BK350; clear BK357; clear BK367; clear HB; clear HO_368002; have HO_5 := n0_; have HO_358002 := n1_; have BK350 := n2_; have BK357 := n3_; have BK367 := n4_; have HB := n5_; have HO371 := n6_; clear n0_ n1_ n2_ n3_ n4_ n5_ n6_; clear ho hb hg hat; obtain ⟨Ao58, co58, eo58⟩ := Kd.R_slice HO371.out; subst eo58; have hcz59_0 : w57.cell? ⟨gb367, 0, none⟩ = some (.int .i64 a0_0) := (blk_cell BK367.out 0).trans rfl; have hcz59_1 : w57.cell? ⟨gb367, 1, none⟩ = some (.int .i64 a0_1) := (blk_cell BK367.out 1).trans rfl; have hcz59_2 : w57.cell? ⟨gb367, 2, none⟩ = some (u368002) := (blk_cell BK367.out 2).trans rfl; have hcz59_3 : w57.cell? ⟨gb367, 3, none⟩ = some (.int .i64 a0_3) := (blk_cell BK367.out 3).trans rfl; have hfz59_0 := blk_frozen BK367.out 0; have hfz59_1 := blk_frozen BK367.out 1; have hfz59_2 := blk_frozen BK367.out 2; have hfz59_3 := blk_frozen BK367.out 3))
                                repeat (go_quiet (first | ((with_reducible refine gate_builtin (b := .append) (xs := #[.tmp 67, .tmp 73]) rfl ?_); at_builtin; refine Kd.R_append (Kd.int .i64) (w0 := w) w.heap.size rfl (.tmp 67) (.tmp 73) 22 2 (.int .i64 0) 8 rfl Try.underlying22 info2 rfl (by decide) (by omega) u368002 x368002_3 ji52 [.int .i64 ji52] (fun k_ => some k_ ≠ (.slice Ao26 y358.length co26 : Value).ownBlock) (fun _ => False) rfl rfl ?aP (fun _ hk => hk.elim) ?aF ?aO ?aB ?aS ?aL ?_; (case aP => exact rfl); (case aB => exact (by repeat (first | (with_reducible first | exact HB.out | apply below_alloc | apply pw_below_drewN | apply below_drew1 | refine below_set ?_ GE350.out | refine below_set ?_ GE357.out | refine below_set ?_ GE367.out) | exact HB.out))); (case aF => exact (fun k_ hk => Kd.fresh' (Kd.R_lt (by (with_reducible repeat (first | apply Kd.R_alloc | apply Kd.R_drewN | apply Kd.R_drew)); exact HO_358002.out)) k_ hk)); (case aO => exact (by (with_reducible repeat (first | apply Kd.R_alloc | apply Kd.R_drewN | apply Kd.R_drew)); exact HO_368002.out)); (case aS => exact (below_size (by repeat (first | (with_reducible first | exact HB.out | apply below_alloc | apply pw_below_drewN | apply below_drew1 | refine below_set ?_ GE350.out | refine below_set ?_ GE357.out | refine below_set ?_ GE367.out) | exact HB.out)))); (case aL => have := LMc53.out; omega); intro v370 w57 ho hb hg hat; rw [← Ny369.out] at ho; have n0_ := Aside0.mk (Kd.R_over' (by (with_reducible repeat (first | apply Kd.R_alloc | apply Kd.R_drewN | apply Kd.R_drew)); exact HO_5.out) (Kd.R_typed (by (with_reducible repeat (first | apply Kd.R_alloc | apply Kd.R_drewN | apply Kd.R_drew)); exact HO_368002.out)) (by decide) hg); have n1_ := Aside0.mk (Kd.R_after (ok := (fun _ => True)) (by (with_reducible repeat (first | apply Kd.R_alloc | apply Kd.R_drewN | apply Kd.R_drew)); exact Kd.R_mono HO_358002.out (fun _ hk => ⟨trivial, hk⟩)) hg hat); have n2_ := Aside0.mk (blk_grown (g := gb350) (o := .cells #[.int .i64 a0_0, .int .i64 a0_1, .slice (some ad368) l0_2.length c0_2, .int .i64 a0_3] 24 (0, 0)) (by (with_reducible repeat (first | refine blk_drewN ?_ _ | refine blk_drew ?_ | refine blk_alloc ?_ _)); exact BK350.out) hg (Kd.R_ne HO_368002.out BK350.out (by decide))); have n3_ := Aside0.mk (blk_grown (g := gb357) (o := .cells #[.int .i64 a0_0, .int .i64 a0_1, .slice Ao26 y358.length co26, .int .i64 a0_3] 24 (0, 0)) (by (with_reducible repeat (first | refine blk_drewN ?_ _ | refine blk_drew ?_ | refine blk_alloc ?_ _)); exact BK357.out) hg (Kd.R_ne HO_368002.out BK357.out (by decide))); have n4_ := Aside0.mk (blk_grown (g := gb367) (o := .cells #[.int .i64 a0_0, .int .i64 a0_1, u368002, .int .i64 a0_3] 24 (0, 0)) (by (with_reducible repeat (first | refine blk_drewN ?_ _ | refine blk_drew ?_ | refine blk_alloc ?_ _)); exact BK367.out) hg (Kd.R_ne HO_368002.out BK367.out (by decide))); have n5_ := Aside0.mk (hb); have n6_ := Aside0.mk (ho); clear HO_5; clear HO_358002; clear BK350; clear BK357; clear BK367; clear HB; clear HO_368002; have HO_5 := n0_; have HO_358002 := n1_; have BK350 := n2_; have BK357 := n3_; have BK367 := n4_; have HB := n5_; have HO371 := n6_; clear n0_ n1_ n2_ n3_ n4_ n5_ n6_; clear ho hb hg hat; obtain ⟨Ao58, co58, eo58⟩ := Kd.R_slice HO371.out; subst eo58; have hcz59_0 : w57.cell? ⟨gb367, 0, none⟩ = some (.int .i64 a0_0) := (blk_cell BK367.out 0).trans rfl; have hcz59_1 : w57.cell? ⟨gb367, 1, none⟩ = some (.int .i64 a0_1) := (blk_cell BK367.out 1).trans rfl; have hcz59_2 : w57.cell? ⟨gb367, 2, none⟩ = some (u368002) := (blk_cell BK367.out 2).trans rfl; have hcz59_3 : w57.cell? ⟨gb367, 3, none⟩ = some (.int .i64 a0_3) := (blk_cell BK367.out 3).trans rfl; have hfz59_0 := blk_frozen BK367.out 0; have hfz59_1 := blk_frozen BK367.out 1; have hfz59_2 := blk_frozen BK367.out 2; have hfz59_3 := blk_frozen BK367.out 3)); try go_wp2_with (first | ((with_reducible refine gate_builtin (b := .append) (xs := #[.tmp 67, .tmp 73]) rfl ?_); at_builtin; refine Kd.R_append (Kd.int .i64) (w0 := w) w.heap.size rfl (.tmp 67) (.tmp 73) 22 2 (.int .i64 0) 8 rfl Try.underlying22 info2 rfl (by decide) (by omega) u368002 x368002_3 ji52 [.int .i64 ji52] (fun k_ => some k_ ≠ (.slice Ao26 y358.length co26 : Value).ownBlock) (fun _ => False) rfl rfl ?aP (fun _ hk => hk.elim) ?aF ?aO ?aB ?aS ?aL ?_; (case aP => exact rfl); (case aB => exact (by repeat (first | (with_reducible first | exact HB.out | apply below_alloc | apply pw_below_drewN | apply below_drew1 | refine below_set ?_ GE350.out | refine below_set ?_ GE357.out | refine below_set ?_ GE367.out) | exact HB.out))); (case aF => exact (fun k_ hk => Kd.fresh' (Kd.R_lt (by (with_reducible repeat (first | apply Kd.R_alloc | apply Kd.R_drewN | apply Kd.R_drew)); exact HO_358002.out)) k_ hk)); (case aO => exact (by (with_reducible repeat (first | apply Kd.R_alloc | apply Kd.R_drewN | apply Kd.R_drew)); exact HO_368002.out)); (case aS => exact (below_size (by repeat (first | (with_reducible first | exact HB.out | apply below_alloc | apply pw_below_drewN | apply below_drew1 | refine below_set ?_ GE350.out | refine below_set ?_ GE357.out | refine below_set ?_ GE367.out) | exact HB.out)))); (case aL => have := LMc53.out; omega); intro v370 w57 ho hb hg hat; rw [← Ny369.out] at ho; have n0_ := Aside0.mk (Kd.R_over' (by (with_reducible repeat (first | apply Kd.R_alloc | apply Kd.R_drewN | apply Kd.R_drew)); exact HO_5.out) (Kd.R_typed (by (with_reducible repeat (first | apply Kd.R_alloc | apply Kd.R_drewN | apply Kd.R_drew)); exact HO_368002.out)) (by decide) hg); have n1_ := Aside0.mk (Kd.R_after (ok := (fun _ => True)) (by (with_reducible repeat (first | apply Kd.R_alloc | apply Kd.R_drewN | apply Kd.R_drew)); exact Kd.R_mono HO_358002.out (fun _ hk => ⟨trivial, hk⟩)) hg hat); have n2_ := Aside0.mk (blk_grown (g := gb350) (o := .cells #[.int .i64 a0_0, .int .i64 a0_1, .slice (some ad368) l0_2.length c0_2, .int .i64 a0_3] 24 (0, 0)) (by (with_reducible repeat (first | refine blk_drewN ?_ _ | refine blk_drew ?_ | refine blk_alloc ?_ _)); exact BK350.out) hg (Kd.R_ne HO_368002.out BK350.out (by decide))); have n3_ := Aside0.mk (blk_grown (g := gb357) (o := .cells #[.int .i64 a0_0, .int .i64 a0_1, .slice Ao26 y358.length co26, .int .i64 a0_3] 24 (0, 0)) (by (with_reducible repeat (first | refine blk_drewN ?_ _ | refine blk_drew ?_ | refine blk_alloc ?_ _)); exact BK357.out) hg (Kd.R_ne HO_368002.out BK357.out (by decide))); have n4_ := Aside0.mk (blk_grown (g := gb367) (o := .cells #[.int .i64 a0_0, .int .i64 a0_1, u368002, .int .i64 a0_3] 24 (0, 0)) (by (with_reducible repeat (first | refine blk_drewN ?_ _ | refine blk_drew ?_ | refine blk_alloc ?_ _)); exact BK367.out) hg (Kd.R_ne HO_368002.out BK367.out (by decide))); have n5_ := Aside0.mk (hb); have n6_ := Aside0.mk (ho); clear HO_5; clear HO_358002; clear BK350; clear BK357; clear BK367; clear HB; clear HO_368002; have HO_5 := n0_; have HO_358002 := n1_; have BK350 := n2_; have BK357 := n3_; have BK367 := n4_; have HB := n5_; have HO371 := n6_; clear n0_ n1_ n2_ n3_ n4_ n5_ n6_; clear ho hb hg hat; obtain ⟨Ao58, co58, eo58⟩ := Kd.R_slice HO371.out; subst eo58; have hcz59_0 : w57.cell? ⟨gb367, 0, none⟩ = some (.int .i64 a0_0) := (blk_cell BK367.out 0).trans rfl; have hcz59_1 : w57.cell? ⟨gb367, 1, none⟩ = some (.int .i64 a0_1) := (blk_cell BK367.out 1).trans rfl; have hcz59_2 : w57.cell? ⟨gb367, 2, none⟩ = some (u368002) := (blk_cell BK367.out 2).trans rfl; have hcz59_3 : w57.cell? ⟨gb367, 3, none⟩ = some (.int .i64 a0_3) := (blk_cell BK367.out 3).trans rfl; have hfz59_0 := blk_frozen BK367.out 0; have hfz59_1 := blk_frozen BK367.out 1; have hfz59_2 := blk_frozen BK367.out 2; have hfz59_3 := blk_frozen BK367.out 3)))
                                go_roundg k3
                                case measure => have := HK1.out; have := HJ36.out; have := HK3.out; omega
                                case rel => exact ⟨(wrap64 (x62_3 + 1)), (y369), (.slice Ao58 y369.length co58), (by first | rfl | (simp; done) | (simp [*]; done)), H', ⟨by have := HK1.out; have := HJ36.out; have := HK3.out; omega⟩, ⟨by (with_reducible repeat (first | apply Kd.R_alloc | apply Kd.R_drewN | apply Kd.R_drew)); exact Kd.R_mono (Kd.R_far (p := ⟨gb367, 2, none⟩) (Kd.R_types HO_5.out BK367.out (by decide)) (fun _ hk => hk.2) (.slice Ao58 y369.length co58)) (fun _ hk => trivial)⟩, ⟨by (with_reducible repeat (first | apply Kd.R_alloc | apply Kd.R_drewN | apply Kd.R_drew)); exact Kd.R_mono (Kd.R_far (p := ⟨gb367, 2, none⟩) (Kd.R_types HO_358002.out BK367.out (by decide)) (fun _ hk => hk.2) (.slice Ao58 y369.length co58)) (fun _ hk => hk.1.2)⟩, ⟨by (with_reducible repeat (first | apply Kd.R_alloc | apply Kd.R_drewN | apply Kd.R_drew)); exact Kd.R_mono (Kd.R_far (p := ⟨gb367, 2, none⟩) (Kd.R_types HO371.out BK367.out (by decide)) (fun _ hk => hk.2) (.slice Ao58 y369.length co58)) (fun _ hk => hk.1)⟩, ⟨by (with_reducible repeat (first | refine blk_drewN ?_ _ | refine blk_drew ?_ | refine blk_alloc ?_ _)); refine blk_far ?_ NB350_367.out _; (with_reducible repeat (first | refine blk_drewN ?_ _ | refine blk_drew ?_ | refine blk_alloc ?_ _)); exact BK350.out⟩, ⟨by (with_reducible repeat (first | refine blk_drewN ?_ _ | refine blk_drew ?_ | refine blk_alloc ?_ _)); refine blk_far ?_ NB357_367.out _; (with_reducible repeat (first | refine blk_drewN ?_ _ | refine blk_drew ?_ | refine blk_alloc ?_ _)); exact BK357.out⟩, ⟨by (with_reducible repeat (first | refine blk_drewN ?_ _ | refine blk_drew ?_ | refine blk_alloc ?_ _)); refine blk_put (cs := #[.int .i64 a0_0, .int .i64 a0_1, u368002, .int .i64 a0_3]) ?_ 2 _ rfl; (with_reducible repeat (first | refine blk_drewN ?_ _ | refine blk_drew ?_ | refine blk_alloc ?_ _)); exact BK367.out⟩, ⟨by repeat (first | (with_reducible first | exact HB.out | apply below_alloc | apply pw_below_drewN | apply below_drew1 | refine below_set ?_ GE350.out | refine below_set ?_ GE357.out | refine below_set ?_ GE367.out) | exact HB.out)⟩⟩
                              · rw [if_neg c53] at H
                                exact absurd H (by simp)
                            · rw [if_neg c51] at H
                              exact absurd H (by simp)
                          · rw [if_neg c50] at H
                            exact absurd H (by simp)
                        · rw [if_neg c49] at H
                          have c49b0 : decide (x62_3 < (l0_2.length : Int)) = false := decide_eq_false c49
                          clear c49
                          replace H := Option.bind_eq_some_iff.mp H
                          obtain ⟨⟨t372, t375⟩, A600, H⟩ := H
                          replace H : (if t375 = 0 then (lombardlaw08_SchedRates.j3 k3 t353 t372 t375 (a0_0 == 1)) else (lombardlaw08_SchedRates.j3 k3 t353 t372 t375 true)) = some r := H
                          have A60 := Aside0.mk A600
                          clear A600
                          have HC61 := Aside0.mk H
                          clear H
                          have hnb62 := NB367_350.out
                          have hnc62 := NB350_367.out
                          have hnb63 := NB367_357.out
                          have hnc63 := NB357_367.out
                          have hcz64_0 : wr.cell? ⟨gb367, 0, none⟩ = some (.int .i64 a0_0) := (blk_cell BK367.out 0).trans rfl
                          have hcz64_1 : wr.cell? ⟨gb367, 1, none⟩ = some (.int .i64 a0_1) := (blk_cell BK367.out 1).trans rfl
                          have hcz64_2 : wr.cell? ⟨gb367, 2, none⟩ = some (u368002) := (blk_cell BK367.out 2).trans rfl
                          have hcz64_3 : wr.cell? ⟨gb367, 3, none⟩ = some (.int .i64 a0_3) := (blk_cell BK367.out 3).trans rfl
                          have hfz64_0 := blk_frozen BK367.out 0
                          have hfz64_1 := blk_frozen BK367.out 1
                          have hfz64_2 := blk_frozen BK367.out 2
                          have hfz64_3 := blk_frozen BK367.out 3
                          obtain ⟨Ao65, co65, eo65⟩ := Kd.R_slice HO_368002.out
                          subst eo65
                          go_upto_region 27 with (first | (go_at_call 11; (with_reducible refine (sched_Build.calls k3 a0_0 a0_1 _ _ x368002_3 a0_3 t372 t375 _ ?side1 ?side2 A60.out).mono ?_); (case side1 => repeat (first | exact (Kd.R_reads' HO_368002.out).2.2 | (with_reducible refine Kd.C_alloc ?_ _) | (with_reducible refine Kd.C_drewN ?_ _) | (with_reducible refine Kd.C_drew ?_))); (case side2 => exact (Kd.R_reads' HO_368002.out).2.1); rintro e w66 ⟨v373, rfl, ho0, hb⟩; have n0_ := Aside0.mk (Kd.R_elder' (by (with_reducible repeat (first | apply Kd.R_alloc | apply Kd.R_drewN | apply Kd.R_drew)); exact HO_5.out) (Kd.R_base ho0) hb); have n1_ := Aside0.mk (Kd.R_below (by (with_reducible repeat (first | apply Kd.R_alloc | apply Kd.R_drewN | apply Kd.R_drew)); exact HO_358002.out) hb); have n2_ := Aside0.mk (Kd.R_below (by (with_reducible repeat (first | apply Kd.R_alloc | apply Kd.R_drewN | apply Kd.R_drew)); exact HO_368002.out) hb); have n3_ := Aside0.mk (Kd.R_lower (Kd.R_new' ho0 (Kd.R_lt (by (with_reducible repeat (first | apply Kd.R_alloc | apply Kd.R_drewN | apply Kd.R_drew)); exact HO_5.out))) (below_size (by repeat (first | (with_reducible first | exact HB.out | apply below_alloc | apply pw_below_drewN | apply below_drew1 | refine below_set ?_ GE350.out | refine below_set ?_ GE357.out | refine below_set ?_ GE367.out) | exact HB.out)))); have n4_ := Aside0.mk (blk_below (g := gb350) (o := .cells #[.int .i64 a0_0, .int .i64 a0_1, .slice A0_2 l0_2.length c0_2, .int .i64 a0_3] 24 (0, 0)) (by (with_reducible repeat (first | refine blk_drewN ?_ _ | refine blk_drew ?_ | refine blk_alloc ?_ _)); exact BK350.out) hb); have n5_ := Aside0.mk (blk_below (g := gb357) (o := .cells #[.int .i64 a0_0, .int .i64 a0_1, .slice Ao26 y358.length co26, .int .i64 a0_3] 24 (0, 0)) (by (with_reducible repeat (first | refine blk_drewN ?_ _ | refine blk_drew ?_ | refine blk_alloc ?_ _)); exact BK357.out) hb); have n6_ := Aside0.mk (blk_below (g := gb367) (o := .cells #[.int .i64 a0_0, .int .i64 a0_1, .slice Ao65 x368002_3.length co65, .int .i64 a0_3] 24 (0, 0)) (by (with_reducible repeat (first | refine blk_drewN ?_ _ | refine blk_drew ?_ | refine blk_alloc ?_ _)); exact BK367.out) hb); have n7_ := Aside0.mk (below_step (by repeat (first | (with_reducible first | exact HB.out | apply below_alloc | apply pw_below_drewN | apply below_drew1 | refine below_set ?_ GE350.out | refine below_set ?_ GE357.out | refine below_set ?_ GE367.out) | exact HB.out)) hb); clear HO_5; clear HO_358002; clear HO_368002; clear BK350; clear BK357; clear BK367; clear HB; have HO_5 := n0_; have HO_358002 := n1_; have HO_368002 := n2_; have HO374 := n3_; have BK350 := n4_; have BK357 := n5_; have BK367 := n6_; have HB := n7_; clear n0_ n1_ n2_ n3_ n4_ n5_ n6_ n7_; (try clear hb); (try clear hb2); (try clear hk); (try clear hi); (try clear ho0)))
                          repeat (go_quiet (first | (go_at_call 11; (with_reducible refine (sched_Build.calls k3 a0_0 a0_1 _ _ x368002_3 a0_3 t372 t375 _ ?side1 ?side2 A60.out).mono ?_); (case side1 => repeat (first | exact (Kd.R_reads' HO_368002.out).2.2 | (with_reducible refine Kd.C_alloc ?_ _) | (with_reducible refine Kd.C_drewN ?_ _) | (with_reducible refine Kd.C_drew ?_))); (case side2 => exact (Kd.R_reads' HO_368002.out).2.1); rintro e w66 ⟨v373, rfl, ho0, hb⟩; have n0_ := Aside0.mk (Kd.R_elder' (by (with_reducible repeat (first | apply Kd.R_alloc | apply Kd.R_drewN | apply Kd.R_drew)); exact HO_5.out) (Kd.R_base ho0) hb); have n1_ := Aside0.mk (Kd.R_below (by (with_reducible repeat (first | apply Kd.R_alloc | apply Kd.R_drewN | apply Kd.R_drew)); exact HO_358002.out) hb); have n2_ := Aside0.mk (Kd.R_below (by (with_reducible repeat (first | apply Kd.R_alloc | apply Kd.R_drewN | apply Kd.R_drew)); exact HO_368002.out) hb); have n3_ := Aside0.mk (Kd.R_lower (Kd.R_new' ho0 (Kd.R_lt (by (with_reducible repeat (first | apply Kd.R_alloc | apply Kd.R_drewN | apply Kd.R_drew)); exact HO_5.out))) (below_size (by repeat (first | (with_reducible first | exact HB.out | apply below_alloc | apply pw_below_drewN | apply below_drew1 | refine below_set ?_ GE350.out | refine below_set ?_ GE357.out | refine below_set ?_ GE367.out) | exact HB.out)))); have n4_ := Aside0.mk (blk_below (g := gb350) (o := .cells #[.int .i64 a0_0, .int .i64 a0_1, .slice A0_2 l0_2.length c0_2, .int .i64 a0_3] 24 (0, 0)) (by (with_reducible repeat (first | refine blk_drewN ?_ _ | refine blk_drew ?_ | refine blk_alloc ?_ _)); exact BK350.out) hb); have n5_ := Aside0.mk (blk_below (g := gb357) (o := .cells #[.int .i64 a0_0, .int .i64 a0_1, .slice Ao26 y358.length co26, .int .i64 a0_3] 24 (0, 0)) (by (with_reducible repeat (first | refine blk_drewN ?_ _ | refine blk_drew ?_ | refine blk_alloc ?_ _)); exact BK357.out) hb); have n6_ := Aside0.mk (blk_below (g := gb367) (o := .cells #[.int .i64 a0_0, .int .i64 a0_1, .slice Ao65 x368002_3.length co65, .int .i64 a0_3] 24 (0, 0)) (by (with_reducible repeat (first | refine blk_drewN ?_ _ | refine blk_drew ?_ | refine blk_alloc ?_ _)); exact BK367.out) hb); have n7_ := Aside0.mk (below_step (by repeat (first | (with_reducible first | exact HB.out | apply below_alloc | apply pw_below_drewN | apply below_drew1 | refine below_set ?_ GE350.out | refine below_set ?_ GE357.out | refine below_set ?_ GE367.out) | exact HB.out)) hb); clear HO_5; clear HO_358002; clear HO_368002; clear BK350; clear BK357; clear BK367; clear HB; have HO_5 := n0_; have HO_358002 := n1_; have HO_368002 := n2_; have HO374 := n3_; have BK350 := n4_; have BK357 := n5_; have BK367 := n6_; have HB := n7_; clear n0_ n1_ n2_ n3_ n4_ n5_ n6_ n7_; (try clear hb); (try clear hb2); (try clear hk); (try clear hi); (try clear ho0))); go_upto_region 27 with (first | (go_at_call 11; (with_reducible refine (sched_Build.calls k3 a0_0 a0_1 _ _ x368002_3 a0_3 t372 t375 _ ?side1 ?side2 A60.out).mono ?_); (case side1 => repeat (first | exact (Kd.R_reads' HO_368002.out).2.2 | (with_reducible refine Kd.C_alloc ?_ _) | (with_reducible refine Kd.C_drewN ?_ _) | (with_reducible refine Kd.C_drew ?_))); (case side2 => exact (Kd.R_reads' HO_368002.out).2.1); rintro e w66 ⟨v373, rfl, ho0, hb⟩; have n0_ := Aside0.mk (Kd.R_elder' (by (with_reducible repeat (first | apply Kd.R_alloc | apply Kd.R_drewN | apply Kd.R_drew)); exact HO_5.out) (Kd.R_base ho0) hb); have n1_ := Aside0.mk (Kd.R_below (by (with_reducible repeat (first | apply Kd.R_alloc | apply Kd.R_drewN | apply Kd.R_drew)); exact HO_358002.out) hb); have n2_ := Aside0.mk (Kd.R_below (by (with_reducible repeat (first | apply Kd.R_alloc | apply Kd.R_drewN | apply Kd.R_drew)); exact HO_368002.out) hb); have n3_ := Aside0.mk (Kd.R_lower (Kd.R_new' ho0 (Kd.R_lt (by (with_reducible repeat (first | apply Kd.R_alloc | apply Kd.R_drewN | apply Kd.R_drew)); exact HO_5.out))) (below_size (by repeat (first | (with_reducible first | exact HB.out | apply below_alloc | apply pw_below_drewN | apply below_drew1 | refine below_set ?_ GE350.out | refine below_set ?_ GE357.out | refine below_set ?_ GE367.out) | exact HB.out)))); have n4_ := Aside0.mk (blk_below (g := gb350) (o := .cells #[.int .i64 a0_0, .int .i64 a0_1, .slice A0_2 l0_2.length c0_2, .int .i64 a0_3] 24 (0, 0)) (by (with_reducible repeat (first | refine blk_drewN ?_ _ | refine blk_drew ?_ | refine blk_alloc ?_ _)); exact BK350.out) hb); have n5_ := Aside0.mk (blk_below (g := gb357) (o := .cells #[.int .i64 a0_0, .int .i64 a0_1, .slice Ao26 y358.length co26, .int .i64 a0_3] 24 (0, 0)) (by (with_reducible repeat (first | refine blk_drewN ?_ _ | refine blk_drew ?_ | refine blk_alloc ?_ _)); exact BK357.out) hb); have n6_ := Aside0.mk (blk_below (g := gb367) (o := .cells #[.int .i64 a0_0, .int .i64 a0_1, .slice Ao65 x368002_3.length co65, .int .i64 a0_3] 24 (0, 0)) (by (with_reducible repeat (first | refine blk_drewN ?_ _ | refine blk_drew ?_ | refine blk_alloc ?_ _)); exact BK367.out) hb); have n7_ := Aside0.mk (below_step (by repeat (first | (with_reducible first | exact HB.out | apply below_alloc | apply pw_below_drewN | apply below_drew1 | refine below_set ?_ GE350.out | refine below_set ?_ GE357.out | refine below_set ?_ GE367.out) | exact HB.out)) hb); clear HO_5; clear HO_358002; clear HO_368002; clear BK350; clear BK357; clear BK367; clear HB; have HO_5 := n0_; have HO_358002 := n1_; have HO_368002 := n2_; have HO374 := n3_; have BK350 := n4_; have BK357 := n5_; have BK367 := n6_; have HB := n7_; clear n0_ n1_ n2_ n3_ n4_ n5_ n6_ n7_; (try clear hb); (try clear hb2); (try clear hk); (try clear hi); (try clear ho0))))
                          (try simp only [Act.put, List.setIfInBounds_toArray, List.set_cons_zero, List.set_cons_succ])
                          go_cut [88] (fun v88 wc => ∃ (kq : Nat) (x88_60 : Bool), v88 = .bool x88_60 ∧ Aside0 (lombardlaw08_SchedRates.j3 kq t353 t372 t375 x88_60 = some r) ∧ Aside0 (kq ≤ k3) ∧ Aside0 (Kd.R k43 43 wc w.heap.size (fun k_ => some k_ ≠ (v373 : Value).ownBlock) v354 t353) ∧ Aside0 (Kd.R k43 43 wc w.heap.size (fun k_ => some k_ ≠ (v354 : Value).ownBlock) v373 t372) ∧ Aside0 (Kd.R (Kd.int .i64) 2 wc w.heap.size (fun k_ => some k_ ≠ ((.slice Ao65 x368002_3.length co65) : Value).ownBlock) (.slice Ao26 y358.length co26) y358) ∧ Aside0 (Kd.R (Kd.int .i64) 2 wc w.heap.size (fun k_ => some k_ ≠ ((.slice Ao26 y358.length co26) : Value).ownBlock) (.slice Ao65 x368002_3.length co65) x368002_3) ∧ Aside0 (wc.heap[gb350]? = some (.cells #[.int .i64 a0_0, .int .i64 a0_1, (.slice A0_2 l0_2.length c0_2), .int .i64 a0_3] 24 (0, 0))) ∧ Aside0 (wc.heap[gb357]? = some (.cells #[.int .i64 a0_0, .int .i64 a0_1, (.slice Ao26 y358.length co26), .int .i64 a0_3] 24 (0, 0))) ∧ Aside0 (wc.heap[gb367]? = some (.cells #[.int .i64 a0_0, .int .i64 a0_1, (.slice Ao65 x368002_3.length co65), .int .i64 a0_3] 24 (0, 0))) ∧ Aside0 (Below w.heap.size w wc))
                          case first =>
                            have H := HC61.out
                            clear HC61
                            by_cases c67 : t375 = 0
                            · rw [if_pos c67] at H
                              have c67b0 : (t375 == 0) = true := beq_iff_eq.mpr c67
                              have c67b1 : (t375 != 0) = false := bne_eq_false_iff_eq.mpr c67
                              clear c67
                              (first | rw [c67b0] | (simp only [i64_w, i32_w]; rw [c67b0]) | skip)
                              have H' := Aside0.mk H
                              clear H
                              have hnb68 := NB350_357.out
                              have hnc68 := NB357_350.out
                              have hnb69 := NB350_367.out
                              have hnc69 := NB367_350.out
                              have hcz70_0 : w66.cell? ⟨gb350, 0, none⟩ = some (.int .i64 a0_0) := (blk_cell BK350.out 0).trans rfl
                              have hcz70_1 : w66.cell? ⟨gb350, 1, none⟩ = some (.int .i64 a0_1) := (blk_cell BK350.out 1).trans rfl
                              have hcz70_2 : w66.cell? ⟨gb350, 2, none⟩ = some (.slice A0_2 l0_2.length c0_2) := (blk_cell BK350.out 2).trans rfl
                              have hcz70_3 : w66.cell? ⟨gb350, 3, none⟩ = some (.int .i64 a0_3) := (blk_cell BK350.out 3).trans rfl
                              have hfz70_0 := blk_frozen BK350.out 0
                              have hfz70_1 := blk_frozen BK350.out 1
                              have hfz70_2 := blk_frozen BK350.out 2
                              have hfz70_3 := blk_frozen BK350.out 3
                              go_wp2
                              repeat (go_quiet (fail); try go_wp2)
                              go_meet
                              case rel => exact ⟨_, ((a0_0 == 1)), (by first | rfl | (simp; done) | (simp [*]; done)), H', ⟨by have := HK1.out; have := HJ36.out; have := HK3.out; first | omega | exact Nat.le_refl _⟩, ⟨by (with_reducible repeat (first | apply Kd.R_alloc | apply Kd.R_drewN | apply Kd.R_drew)); exact Kd.R_mono HO_5.out (fun _ hk => hk.2)⟩, ⟨by (with_reducible repeat (first | apply Kd.R_alloc | apply Kd.R_drewN | apply Kd.R_drew)); exact Kd.R_mono HO374.out (fun _ hk => hk.2)⟩, ⟨by (with_reducible repeat (first | apply Kd.R_alloc | apply Kd.R_drewN | apply Kd.R_drew)); exact HO_358002.out⟩, ⟨by (with_reducible repeat (first | apply Kd.R_alloc | apply Kd.R_drewN | apply Kd.R_drew)); exact HO_368002.out⟩, ⟨by (with_reducible repeat (first | refine blk_drewN ?_ _ | refine blk_drew ?_ | refine blk_alloc ?_ _)); exact BK350.out⟩, ⟨by (with_reducible repeat (first | refine blk_drewN ?_ _ | refine blk_drew ?_ | refine blk_alloc ?_ _)); exact BK357.out⟩, ⟨by (with_reducible repeat (first | refine blk_drewN ?_ _ | refine blk_drew ?_ | refine blk_alloc ?_ _)); exact BK367.out⟩, ⟨by repeat (first | (with_reducible first | exact HB.out | apply below_alloc | apply pw_below_drewN | apply below_drew1 | refine below_set ?_ GE350.out | refine below_set ?_ GE357.out | refine below_set ?_ GE367.out) | exact HB.out)⟩⟩
                            · rw [if_neg c67] at H
                              have c67b0 : (t375 == 0) = false := beq_eq_false_iff_ne.mpr c67
                              have c67b1 : (t375 != 0) = true := bne_iff_ne.mpr c67
                              (first | rw [c67b0] | (simp only [i64_w, i32_w]; rw [c67b0]) | skip)
                              have H' := Aside0.mk H
                              clear H
                              go_wp2
                              repeat (go_quiet (fail); try go_wp2)
                              go_meet
                              case rel => exact ⟨_, (true), (by first | rfl | (simp; done) | (simp [*]; done)), H', ⟨by have := HK1.out; have := HJ36.out; have := HK3.out; first | omega | exact Nat.le_refl _⟩, ⟨by (with_reducible repeat (first | apply Kd.R_alloc | apply Kd.R_drewN | apply Kd.R_drew)); exact Kd.R_mono HO_5.out (fun _ hk => hk.2)⟩, ⟨by (with_reducible repeat (first | apply Kd.R_alloc | apply Kd.R_drewN | apply Kd.R_drew)); exact Kd.R_mono HO374.out (fun _ hk => hk.2)⟩, ⟨by (with_reducible repeat (first | apply Kd.R_alloc | apply Kd.R_drewN | apply Kd.R_drew)); exact HO_358002.out⟩, ⟨by (with_reducible repeat (first | apply Kd.R_alloc | apply Kd.R_drewN | apply Kd.R_drew)); exact HO_368002.out⟩, ⟨by (with_reducible repeat (first | refine blk_drewN ?_ _ | refine blk_drew ?_ | refine blk_alloc ?_ _)); exact BK350.out⟩, ⟨by (with_reducible repeat (first | refine blk_drewN ?_ _ | refine blk_drew ?_ | refine blk_alloc ?_ _)); exact BK357.out⟩, ⟨by (with_reducible repeat (first | refine blk_drewN ?_ _ | refine blk_drew ?_ | refine blk_alloc ?_ _)); exact BK367.out⟩, ⟨by repeat (first | (with_reducible first | exact HB.out | apply below_alloc | apply pw_below_drewN | apply below_drew1 | refine below_set ?_ GE350.out | refine below_set ?_ GE357.out | refine below_set ?_ GE367.out) | exact HB.out)⟩⟩
                          case rest =>
                            clear HC61
                            try clear c1
                            try clear c2
                            try clear p2
                            try clear c3
                            try clear p3
                            try clear q3
                            try clear hx3
                            try clear c4
                            try clear c5
                            try clear c6
                            try clear p6
                            try clear c8
                            try clear c12
                            try clear c12b0
                            try clear c12b1
                            try clear c22
                            try clear c30
                            try clear c30b0
                            try clear c31
                            try clear c31b0
                            try clear c32
                            try clear c32b0
                            try clear c34
                            try clear c35
                            try clear p36
                            try clear q36
                            try clear hx36
                            try clear c38
                            try clear c38b0
                            try clear c38b1
                            try clear c39
                            try clear c41
                            try clear c42
                            try clear c45
                            try clear c46
                            try clear c49
                            try clear c49b0
                            try clear c50
                            try clear c50b0
                            try clear c51
                            try clear c51b0
                            try clear c53
                            try clear c54
                            try clear c55
                            try clear c62
                            try clear c63
                            try clear p64
                            try clear c67
                            try clear c67b0
                            try clear c67b1
                            try clear c68
                            try clear c69
                            try clear hcz16_0
                            try clear hcz16_1
                            try clear hcz16_2
                            try clear hcz16_3
                            try clear hcz18_0
                            try clear hcz18_1
                            try clear hcz18_2
                            try clear hcz18_3
                            try clear hcz20_0
                            try clear hcz20_1
                            try clear hcz20_2
                            try clear hcz20_3
                            try clear hcz23_0
                            try clear hcz23_1
                            try clear hcz23_2
                            try clear hcz23_3
                            try clear hcz27_0
                            try clear hcz27_1
                            try clear hcz27_2
                            try clear hcz27_3
                            try clear hcz36_0
                            try clear hcz36_1
                            try clear hcz36_2
                            try clear hcz36_3
                            try clear hcz40_0
                            try clear hcz40_1
                            try clear hcz40_2
                            try clear hcz40_3
                            try clear hcz43_0
                            try clear hcz43_1
                            try clear hcz43_2
                            try clear hcz43_3
                            try clear hcz47_0
                            try clear hcz47_1
                            try clear hcz47_2
                            try clear hcz47_3
                            try clear hcz48_0
                            try clear hcz48_1
                            try clear hcz48_2
                            try clear hcz48_3
                            try clear hcz56_0
                            try clear hcz56_1
                            try clear hcz56_2
                            try clear hcz56_3
                            try clear hcz59_0
                            try clear hcz59_1
                            try clear hcz59_2
                            try clear hcz59_3
                            try clear hcz64_0
                            try clear hcz64_1
                            try clear hcz64_2
                            try clear hcz64_3
                            try clear hcz70_0
                            try clear hcz70_1
                            try clear hcz70_2
                            try clear hcz70_3
                            try clear hcz9_0
                            try clear hcz9_1
                            try clear hcz9_2
                            try clear hcz9_3
                            try clear hfz16_0
                            try clear hfz16_1
                            try clear hfz16_2
                            try clear hfz16_3
                            try clear hfz18_0
                            try clear hfz18_1
                            try clear hfz18_2
                            try clear hfz18_3
                            try clear hfz20_0
                            try clear hfz20_1
                            try clear hfz20_2
                            try clear hfz20_3
                            try clear hfz23_0
                            try clear hfz23_1
                            try clear hfz23_2
                            try clear hfz23_3
                            try clear hfz27_0
                            try clear hfz27_1
                            try clear hfz27_2
                            try clear hfz27_3
                            try clear hfz36_0
                            try clear hfz36_1
                            try clear hfz36_2
                            try clear hfz36_3
                            try clear hfz40_0
                            try clear hfz40_1
                            try clear hfz40_2
                            try clear hfz40_3
                            try clear hfz43_0
                            try clear hfz43_1
                            try clear hfz43_2
                            try clear hfz43_3
                            try clear hfz47_0
                            try clear hfz47_1
                            try clear hfz47_2
                            try clear hfz47_3
                            try clear hfz48_0
                            try clear hfz48_1
                            try clear hfz48_2
                            try clear hfz48_3
                            try clear hfz56_0
                            try clear hfz56_1
                            try clear hfz56_2
                            try clear hfz56_3
                            try clear hfz59_0
                            try clear hfz59_1
                            try clear hfz59_2
                            try clear hfz59_3
                            try clear hfz64_0
                            try clear hfz64_1
                            try clear hfz64_2
                            try clear hfz64_3
                            try clear hfz70_0
                            try clear hfz70_1
                            try clear hfz70_2
                            try clear hfz70_3
                            try clear hfz9_0
                            try clear hfz9_1
                            try clear hfz9_2
                            try clear hfz9_3
                            try clear hx365_0
                            try clear hx365_1
                            try clear hx365_2
                            try clear hx365_3
                            try clear hx368_0
                            try clear p2
                            try clear p3
                            try clear p36
                            try clear p365
                            try clear p368
                            try clear p6
                            try clear q3
                            try clear q36
                            try clear q365
                            try clear q368
                            obtain ⟨kq, x88_60, rfl, HA, HJ60, HO_5, HO_16, HO_358002, HO_368002, BK350, BK357, BK367, HB⟩ := hcut
                            cases kq with
                            | zero => exact absurd HA.out (by simp [lombardlaw08_SchedRates.j3])
                            | succ kj60 =>
                              have H := HA.out
                              clear HA
                              simp only [lombardlaw08_SchedRates.j3] at H
                              by_cases c71 : x88_60 = true
                              · subst c71
                                have H1 : (if t375 = 0 then (some true) else (some (t375 == 3))) = some r := by rw [if_pos rfl] at H; exact H
                                clear H
                                have H := H1
                                clear H1
                                by_cases c72 : t375 = 0
                                · rw [if_pos c72] at H
                                  have c72b0 : (t375 == 0) = true := beq_iff_eq.mpr c72
                                  have c72b1 : (t375 != 0) = false := bne_eq_false_iff_eq.mpr c72
                                  clear c72
                                  obtain rfl := Option.some.inj H
                                  go_wp2
                                  repeat (go_quiet (fail); try go_wp2)
                                  go_ret
                                  exact ⟨by first | rfl | (simp [errW_none, errW_some] <;> rfl) | (simp [*, errW_none, errW_some] <;> rfl), by repeat (first | (with_reducible first | exact HB.out | apply below_alloc | apply pw_below_drewN | apply below_drew1 | refine below_set ?_ GE350.out | refine below_set ?_ GE357.out | refine below_set ?_ GE367.out) | exact HB.out)⟩
                                · rw [if_neg c72] at H
                                  have c72b0 : (t375 == 0) = false := beq_eq_false_iff_ne.mpr c72
                                  have c72b1 : (t375 != 0) = true := bne_iff_ne.mpr c72
                                  obtain rfl := Option.some.inj H
                                  go_wp2
                                  repeat (go_quiet (fail); try go_wp2)
                                  go_ret
                                  exact ⟨by first | rfl | (simp [errW_none, errW_some] <;> rfl) | (simp [*, errW_none, errW_some] <;> rfl), by repeat (first | (with_reducible first | exact HB.out | apply below_alloc | apply pw_below_drewN | apply below_drew1 | refine below_set ?_ GE350.out | refine below_set ?_ GE357.out | refine below_set ?_ GE367.out) | exact HB.out)⟩
                              · replace c71 := Bool.eq_false_iff.mpr c71
                                subst c71
                                have H1 : (lombardlaw08_SchedRates.l2 kj60 t353 t372 (t353.length : Int) 0) = some r := by rw [if_neg (show ¬ (false = true) by decide)] at H; exact H
                                clear H
                                have H := H1
                                clear H1
                                have H' := Aside0.mk H
                                clear H
                                obtain ⟨Ao73, co73, eo73⟩ := Kd.R_slice HO_5.out
                                subst eo73
                                go_wp2
                                repeat (go_quiet (fail); try go_wp2)
                                go_loopg [97] kj60 (fun kq v97 w' => ∃ (x97_5 : Int), v97 = .int .i64 x97_5 ∧ Aside0 (lombardlaw08_SchedRates.l2 kq t353 t372 (t353.length : Int) x97_5 = some r) ∧ Aside0 (kq ≤ kj60) ∧ Aside0 (Kd.R k43 43 w' w.heap.size (fun k_ => some k_ ≠ (v373 : Value).ownBlock) (.slice Ao73 t353.length co73) t353) ∧ Aside0 (Kd.R k43 43 w' w.heap.size (fun k_ => some k_ ≠ ((.slice Ao73 t353.length co73) : Value).ownBlock) v373 t372) ∧ Aside0 (Kd.R (Kd.int .i64) 2 w' w.heap.size (fun k_ => some k_ ≠ ((.slice Ao65 x368002_3.length co65) : Value).ownBlock) (.slice Ao26 y358.length co26) y358) ∧ Aside0 (Kd.R (Kd.int .i64) 2 w' w.heap.size (fun k_ => some k_ ≠ ((.slice Ao26 y358.length co26) : Value).ownBlock) (.slice Ao65 x368002_3.length co65) x368002_3) ∧ Aside0 (w'.heap[gb350]? = some (.cells #[.int .i64 a0_0, .int .i64 a0_1, (.slice A0_2 l0_2.length c0_2), .int .i64 a0_3] 24 (0, 0))) ∧ Aside0 (w'.heap[gb357]? = some (.cells #[.int .i64 a0_0, .int .i64 a0_1, (.slice Ao26 y358.length co26), .int .i64 a0_3] 24 (0, 0))) ∧ Aside0 (w'.heap[gb367]? = some (.cells #[.int .i64 a0_0, .int .i64 a0_1, (.slice Ao65 x368002_3.length co65), .int .i64 a0_3] 24 (0, 0))) ∧ Aside0 (Below w.heap.size w w'))
                                case atStart => exact ⟨(0), (by first | rfl | (simp; done) | (simp [*]; done)), H', ⟨Nat.le_refl _⟩, ⟨by (with_reducible repeat (first | apply Kd.R_alloc | apply Kd.R_drewN | apply Kd.R_drew)); exact HO_5.out⟩, ⟨by (with_reducible repeat (first | apply Kd.R_alloc | apply Kd.R_drewN | apply Kd.R_drew)); exact HO_16.out⟩, ⟨by (with_reducible repeat (first | apply Kd.R_alloc | apply Kd.R_drewN | apply Kd.R_drew)); exact HO_358002.out⟩, ⟨by (with_reducible repeat (first | apply Kd.R_alloc | apply Kd.R_drewN | apply Kd.R_drew)); exact HO_368002.out⟩, ⟨by (with_reducible repeat (first | refine blk_drewN ?_ _ | refine blk_drew ?_ | refine blk_alloc ?_ _)); exact BK350.out⟩, ⟨by (with_reducible repeat (first | refine blk_drewN ?_ _ | refine blk_drew ?_ | refine blk_alloc ?_ _)); exact BK357.out⟩, ⟨by (with_reducible repeat (first | refine blk_drewN ?_ _ | refine blk_drew ?_ | refine blk_alloc ?_ _)); exact BK367.out⟩, ⟨by repeat (first | (with_reducible first | exact HB.out | apply below_alloc | apply pw_below_drewN | apply below_drew1 | refine below_set ?_ GE350.out | refine below_set ?_ GE357.out | refine below_set ?_ GE367.out) | exact HB.out)⟩⟩
                                case round =>
                                  clear H'
                                  try clear c1
                                  try clear c2
                                  try clear p2
                                  try clear c3
                                  try clear p3
                                  try clear q3
                                  try clear hx3
                                  try clear c4
                                  try clear c5
                                  try clear c6
                                  try clear p6
                                  try clear c7
                                  try clear c8
                                  try clear c12
                                  try clear c12b0
                                  try clear c12b1
                                  try clear c22
                                  try clear c30
                                  try clear c30b0
                                  try clear c31
                                  try clear c31b0
                                  try clear c32
                                  try clear c32b0
                                  try clear c34
                                  try clear c35
                                  try clear p36
                                  try clear q36
                                  try clear hx36
                                  try clear c38
                                  try clear c38b0
                                  try clear c38b1
                                  try clear c39
                                  try clear c41
                                  try clear c42
                                  try clear c45
                                  try clear c46
                                  try clear c49
                                  try clear c49b0
                                  try clear c50
                                  try clear c50b0
                                  try clear c51
                                  try clear c51b0
                                  try clear c53
                                  try clear c54
                                  try clear c55
                                  try clear c62
                                  try clear c63
                                  try clear p64
                                  try clear c67
                                  try clear c67b0
                                  try clear c67b1
                                  try clear c68
                                  try clear c69
                                  try clear c71
                                  try clear c72
                                  try clear c72b0
                                  try clear c72b1
                                  try clear hcz16_0
                                  try clear hcz16_1
                                  try clear hcz16_2
                                  try clear hcz16_3
                                  try clear hcz18_0
                                  try clear hcz18_1
                                  try clear hcz18_2
                                  try clear hcz18_3
                                  try clear hcz20_0
                                  try clear hcz20_1
                                  try clear hcz20_2
                                  try clear hcz20_3
                                  try clear hcz23_0
                                  try clear hcz23_1
                                  try clear hcz23_2
                                  try clear hcz23_3
                                  try clear hcz27_0
                                  try clear hcz27_1
                                  try clear hcz27_2
                                  try clear hcz27_3
                                  try clear hcz36_0
                                  try clear hcz36_1
                                  try clear hcz36_2
                                  try clear hcz36_3
                                  try clear hcz40_0
                                  try clear hcz40_1
                                  try clear hcz40_2
                                  try clear hcz40_3
                                  try clear hcz43_0
                                  try clear hcz43_1
                                  try clear hcz43_2
                                  try clear hcz43_3
                                  try clear hcz47_0
                                  try clear hcz47_1
                                  try clear hcz47_2
                                  try clear hcz47_3
                                  try clear hcz48_0
                                  try clear hcz48_1
                                  try clear hcz48_2
                                  try clear hcz48_3
                                  try clear hcz56_0
                                  try clear hcz56_1
                                  try clear hcz56_2
                                  try clear hcz56_3
                                  try clear hcz59_0
                                  try clear hcz59_1
                                  try clear hcz59_2
                                  try clear hcz59_3
                                  try clear hcz64_0
                                  try clear hcz64_1
                                  try clear hcz64_2
                                  try clear hcz64_3
                                  try clear hcz70_0
                                  try clear hcz70_1
                                  try clear hcz70_2
                                  try clear hcz70_3
                                  try clear hcz9_0
                                  try clear hcz9_1
                                  try clear hcz9_2
                                  try clear hcz9_3
                                  try clear hfz16_0
                                  try clear hfz16_1
                                  try clear hfz16_2
                                  try clear hfz16_3
                                  try clear hfz18_0
                                  try clear hfz18_1
                                  try clear hfz18_2
                                  try clear hfz18_3
                                  try clear hfz20_0
                                  try clear hfz20_1
                                  try clear hfz20_2
                                  try clear hfz20_3
                                  try clear hfz23_0
                                  try clear hfz23_1
                                  try clear hfz23_2
                                  try clear hfz23_3
                                  try clear hfz27_0
                                  try clear hfz27_1
                                  try clear hfz27_2
                                  try clear hfz27_3
                                  try clear hfz36_0
                                  try clear hfz36_1
                                  try clear hfz36_2
                                  try clear hfz36_3
                                  try clear hfz40_0
                                  try clear hfz40_1
                                  try clear hfz40_2
                                  try clear hfz40_3
                                  try clear hfz43_0
                                  try clear hfz43_1
                                  try clear hfz43_2
                                  try clear hfz43_3
                                  try clear hfz47_0
                                  try clear hfz47_1
                                  try clear hfz47_2
                                  try clear hfz47_3
                                  try clear hfz48_0
                                  try clear hfz48_1
                                  try clear hfz48_2
                                  try clear hfz48_3
                                  try clear hfz56_0
                                  try clear hfz56_1
                                  try clear hfz56_2
                                  try clear hfz56_3
                                  try clear hfz59_0
                                  try clear hfz59_1
                                  try clear hfz59_2
                                  try clear hfz59_3
                                  try clear hfz64_0
                                  try clear hfz64_1
                                  try clear hfz64_2
                                  try clear hfz64_3
                                  try clear hfz70_0
                                  try clear hfz70_1
                                  try clear hfz70_2
                                  try clear hfz70_3
                                  try clear hfz9_0
                                  try clear hfz9_1
                                  try clear hfz9_2
                                  try clear hfz9_3
                                  try clear hx365_0
                                  try clear hx365_1
                                  try clear hx365_2
                                  try clear hx365_3
                                  try clear hx368_0
                                  try clear p2
                                  try clear p3
                                  try clear p36
                                  try clear p365
                                  try clear p368
                                  try clear p6
                                  try clear p64
                                  try clear q3
                                  try clear q36
                                  try clear q365
                                  try clear q368
                                  obtain ⟨x97_5, rfl, HA, HK5, HO_5, HO_16, HO_358002, HO_368002, BK350, BK357, BK367, HB⟩ := hrel
                                  cases gk with
                                  | zero => exact absurd HA.out (by simp [lombardlaw08_SchedRates.l2])
                                  | succ k5 =>
                                    have H := HA.out
                                    clear HA
                                    simp only [lombardlaw08_SchedRates.l2] at H
                                    by_cases c74 : x97_5 < (t353.length : Int)
                                    · rw [if_pos c74] at H
                                      have c74b0 : decide (x97_5 < (t353.length : Int)) = true := decide_eq_true c74
                                      clear c74
                                      by_cases c75 : 0 ≤ x97_5
                                      · rw [if_pos c75] at H
                                        have c75b0 : decide (0 ≤ x97_5) = true := decide_eq_true c75
                                        clear c75
                                        by_cases c76 : x97_5 < (t372.length : Int)
                                        · rw [if_pos c76] at H
                                          have c76b0 : decide (x97_5 < (t372.length : Int)) = true := decide_eq_true c76
                                          clear c76
                                          by_cases c77 : x97_5 < (t353.length : Int)
                                          · rw [if_pos c77] at H
                                            have c77b0 : decide (x97_5 < (t353.length : Int)) = true := decide_eq_true c77
                                            clear c77
                                            by_cases c78 : ((rd_T43 t372 x97_5).f0) < ((rd_T43 t353 x97_5).f0)
                                            · rw [if_pos c78] at H
                                              have c78b0 : decide (((rd_T43 t372 x97_5).f0) < ((rd_T43 t353 x97_5).f0)) = true := decide_eq_true c78
                                              clear c78
                                              obtain rfl := Option.some.inj H
                                              obtain ⟨Ao79, co79, eo79⟩ := Kd.R_slice HO_16.out
                                              subst eo79
                                              have p376 : 0 ≤ (x97_5 : Int) := of_decide_eq_true (by first | (with_reducible assumption) | assumption)
                                              have q376 : x97_5 < (t372.length : Int) := of_decide_eq_true (by first | (with_reducible assumption) | assumption)
                                              obtain ⟨ad376, e376, hx376_0, hx376_1, hx376_2, hx376_3⟩ := at_T43 (Kd.R_reads' HO_16.out).2.2 x97_5 p376 q376
                                              cases e376
                                              replace p376 := eq_true p376
                                              replace q376 := eq_true q376
                                              have p377 : 0 ≤ (x97_5 : Int) := of_decide_eq_true (by first | (with_reducible assumption) | assumption)
                                              have q377 : x97_5 < (t353.length : Int) := of_decide_eq_true (by first | (with_reducible assumption) | assumption)
                                              obtain ⟨ad377, e377, hx377_0, hx377_1, hx377_2, hx377_3⟩ := at_T43 (Kd.R_reads' HO_5.out).2.2 x97_5 p377 q377
                                              cases e377
                                              replace p377 := eq_true p377
                                              replace q377 := eq_true q377
                                              go_wp2
                                              repeat (go_quiet (fail); try go_wp2)
                                              go_ret
                                              exact ⟨by first | rfl | (simp [errW_none, errW_some] <;> rfl) | (simp [*, errW_none, errW_some] <;> rfl), by repeat (first | (with_reducible first | exact HB.out | apply below_alloc | apply pw_below_drewN | apply below_drew1 | refine below_set ?_ GE350.out | refine below_set ?_ GE357.out | refine below_set ?_ GE367.out) | exact HB.out)⟩
                                            · rw [if_neg c78] at H
                                              have c78b0 : decide (((rd_T43 t372 x97_5).f0) < ((rd_T43 t353 x97_5).f0)) = false := decide_eq_false c78
                                              clear c78
                                              have H' := Aside0.mk H
                                              clear H
                                              obtain ⟨Ao80, co80, eo80⟩ := Kd.R_slice HO_16.out
                                              subst eo80
                                              have p376 : 0 ≤ (x97_5 : Int) := of_decide_eq_true (by first | (with_reducible assumption) | assumption)
                                              have q376 : x97_5 < (t372.length : Int) := of_decide_eq_true (by first | (with_reducible assumption) | assumption)
                                              obtain ⟨ad376, e376, hx376_0, hx376_1, hx376_2, hx376_3⟩ := at_T43 (Kd.R_reads' HO_16.out).2.2 x97_5 p376 q376
                                              cases e376
                                              replace p376 := eq_true p376
                                              replace q376 := eq_true q376
                                              have p377 : 0 ≤ (x97_5 : Int) := of_decide_eq_true (by first | (with_reducible assumption) | assumption)
                                              have q377 : x97_5 < (t353.length : Int) := of_decide_eq_true (by first | (with_reducible assumption) | assumption)
                                              obtain ⟨ad377, e377, hx377_0, hx377_1, hx377_2, hx377_3⟩ := at_T43 (Kd.R_reads' HO_5.out).2.2 x97_5 p377 q377
                                              cases e377
                                              replace p377 := eq_true p377
                                              replace q377 := eq_true q377
                                              go_wp2
                                              repeat (go_quiet (fail); try go_wp2)
                                              go_roundg k5
                                              case measure => have := HK1.out; have := HJ36.out; have := HK3.out; have := HJ60.out; have := HK5.out; omega
                                              case rel => exact ⟨(wrap64 (x97_5 + 1)), (by first | rfl | (simp; done) | (simp [*]; done)), H', ⟨by have := HK1.out; have := HJ36.out; have := HK3.out; have := HJ60.out; have := HK5.out; omega⟩, ⟨by (with_reducible repeat (first | apply Kd.R_alloc | apply Kd.R_drewN | apply Kd.R_drew)); exact HO_5.out⟩, ⟨by (with_reducible repeat (first | apply Kd.R_alloc | apply Kd.R_drewN | apply Kd.R_drew)); exact HO_16.out⟩, ⟨by (with_reducible repeat (first | apply Kd.R_alloc | apply Kd.R_drewN | apply Kd.R_drew)); exact HO_358002.out⟩, ⟨by (with_reducible repeat (first | apply Kd.R_alloc | apply Kd.R_drewN | apply Kd.R_drew)); exact HO_368002.out⟩, ⟨by (with_reducible repeat (first | refine blk_drewN ?_ _ | refine blk_drew ?_ | refine blk_alloc ?_ _)); exact BK350.out⟩, ⟨by (with_reducible repeat (first | refine blk_drewN ?_ _ | refine blk_drew ?_ | refine blk_alloc ?_ _)); exact BK357.out⟩, ⟨by (with_reducible repeat (first | refine blk_drewN ?_ _ | refine blk_drew ?_ | refine blk_alloc ?_ _)); exact BK367.out⟩, ⟨by repeat (first | (with_reducible first | exact HB.out | apply below_alloc | apply pw_below_drewN | apply below_drew1 | refine below_set ?_ GE350.out | refine below_set ?_ GE357.out | refine below_set ?_ GE367.out) | exact HB.out)⟩⟩
                                          · rw [if_neg c77] at H
                                            exact absurd H (by simp)
                                        · rw [if_neg c76] at H
                                          exact absurd H (by simp)
                                      · rw [if_neg c75] at H
                                        exact absurd H (by simp)
                                    · rw [if_neg c74] at H
                                      have c74b0 : decide (x97_5 < (t353.length : Int)) = false := decide_eq_false c74
                                      clear c74
                                      obtain rfl := Option.some.inj H
                                      go_wp2
                                      repeat (go_quiet (fail); try go_wp2)
                                      go_ret
                                      exact ⟨by first | rfl | (simp [errW_none, errW_some] <;> rfl) | (simp [*, errW_none, errW_some] <;> rfl), by repeat (first | (with_reducible first | exact HB.out | apply below_alloc | apply pw_below_drewN | apply below_drew1 | refine below_set ?_ GE350.out | refine below_set ?_ GE357.out | refine below_set ?_ GE367.out) | exact HB.out)⟩
      · rw [if_neg c12] at H
        have c12b0 : (t356 == 0) = false := beq_eq_false_iff_ne.mpr c12
        have c12b1 : (t356 != 0) = true := bne_iff_ne.mpr c12
        obtain rfl := Option.some.inj H
        go_enter Try.func8, Try.ntmps8
        go_wp2_with (first | ((with_reducible refine gate_dst (N := 2) rfl ?_); refine box_event ?hg (N := 2) ?hd (cs := #[.int .i64 a0_0, .int .i64 a0_1, .slice A0_2 l0_2.length c0_2, .int .i64 a0_3]) (t := 24) ?hr ?_; (case hd => rfl); (case hg => rfl); (case hr => first | (go_simp; done) | (go_simp; rfl)); intro gb350 hg w81 hbox hb; have n0_ := Aside0.mk (below_step (by repeat (first | (with_reducible first | exact HB.out | apply below_alloc | apply pw_below_drewN | apply below_drew1) | exact HB.out)) hb); have n1_ := Aside0.mk (hbox); have n2_ := Aside0.mk ((by rw [hg]; exact (below_size (by repeat (first | (with_reducible first | exact HB.out | apply below_alloc | apply pw_below_drewN | apply below_drew1) | exact HB.out))) : w.heap.size ≤ gb350)); have n3_ := Aside0.mk ((by rw [hg]; exact (below_size (by repeat (first | (with_reducible first | exact HB.out | apply below_alloc | apply pw_below_drewN | apply below_drew1) | exact HB.out))) : w.heap.size ≤ gb350)); clear HB; have HB := n0_; have BK350 := n1_; have GW350 := n2_; have GE350 := n3_; clear n0_ n1_ n2_ n3_; clear hb hbox hg) | (go_at_call 9; (with_reducible refine (lombardlaw08_alive.calls k  true _ A3.out).mono ?_); rintro e w82 ⟨rfl, hb⟩; have n0_ := Aside0.mk (blk_below (g := gb350) (o := .cells #[.int .i64 a0_0, .int .i64 a0_1, .slice A0_2 l0_2.length c0_2, .int .i64 a0_3] 24 (0, 0)) (by (with_reducible repeat (first | refine blk_drewN ?_ _ | refine blk_drew ?_ | refine blk_alloc ?_ _)); exact BK350.out) hb); have n1_ := Aside0.mk (below_step (by repeat (first | (with_reducible first | exact HB.out | apply below_alloc | apply pw_below_drewN | apply below_drew1 | refine below_set ?_ GE350.out) | exact HB.out)) hb); clear BK350; clear HB; have BK350 := n0_; have HB := n1_; clear n0_ n1_; (try clear hb); (try clear hb2); (try clear hk); (try clear hi); have hcz83_0 : w82.cell? ⟨gb350, 0, none⟩ = some (.int .i64 a0_0) := (blk_cell BK350.out 0).trans rfl; have hcz83_1 : w82.cell? ⟨gb350, 1, none⟩ = some (.int .i64 a0_1) := (blk_cell BK350.out 1).trans rfl; have hcz83_2 : w82.cell? ⟨gb350, 2, none⟩ = some (.slice A0_2 l0_2.length c0_2) := (blk_cell BK350.out 2).trans rfl; have hcz83_3 : w82.cell? ⟨gb350, 3, none⟩ = some (.int .i64 a0_3) := (blk_cell BK350.out 3).trans rfl; have hfz83_0 := blk_frozen BK350.out 0; have hfz83_1 := blk_frozen BK350.out 1; have hfz83_2 := blk_frozen BK350.out 2; have hfz83_3 := blk_frozen BK350.out 3) | (go_at_call 10; (with_reducible refine (lombardlaw08_great.calls a0_0 a0_1 _ _ l0_2 a0_3 false _ ?side1 ?side2 A5.out).mono ?_); (case side1 => repeat (first | exact (Kd.C_below HR0_2.out HB.out) | (with_reducible refine Kd.C_alloc ?_ _) | (with_reducible refine Kd.C_drewN ?_ _) | (with_reducible refine Kd.C_drew ?_))); (case side2 => exact HC0_2.out); rintro e w84 ⟨rfl, hb⟩; have n0_ := Aside0.mk (blk_below (g := gb350) (o := .cells #[.int .i64 a0_0, .int .i64 a0_1, .slice A0_2 l0_2.length c0_2, .int .i64 a0_3] 24 (0, 0)) (by (with_reducible repeat (first | refine blk_drewN ?_ _ | refine blk_drew ?_ | refine blk_alloc ?_ _)); exact BK350.out) hb); have n1_ := Aside0.mk (below_step (by repeat (first | (with_reducible first | exact HB.out | apply below_alloc | apply pw_below_drewN | apply below_drew1 | refine below_set ?_ GE350.out) | exact HB.out)) hb); clear BK350; clear HB; have BK350 := n0_; have HB := n1_; clear n0_ n1_; (try clear hb); (try clear hb2); (try clear hk); (try clear hi); have hcz85_0 : w84.cell? ⟨gb350, 0, none⟩ = some (.int .i64 a0_0) := (blk_cell BK350.out 0).trans rfl; have hcz85_1 : w84.cell? ⟨gb350, 1, none⟩ = some (.int .i64 a0_1) := (blk_cell BK350.out 1).trans rfl; have hcz85_2 : w84.cell? ⟨gb350, 2, none⟩ = some (.slice A0_2 l0_2.length c0_2) := (blk_cell BK350.out 2).trans rfl; have hcz85_3 : w84.cell? ⟨gb350, 3, none⟩ = some (.int .i64 a0_3) := (blk_cell BK350.out 3).trans rfl; have hfz85_0 := blk_frozen BK350.out 0; have hfz85_1 := blk_frozen BK350.out 1; have hfz85_2 := blk_frozen BK350.out 2; have hfz85_3 := blk_frozen BK350.out 3) | (go_at_call 11; (with_reducible refine (sched_Build.calls k a0_0 a0_1 _ _ l0_2 a0_3 t353 t356 _ ?side1 ?side2 A11.out).mono ?_); (case side1 => repeat (first | exact (Kd.C_below HR0_2.out HB.out) | (with_reducible refine Kd.C_alloc ?_ _) | (with_reducible refine Kd.C_drewN ?_ _) | (with_reducible refine Kd.C_drew ?_))); (case side2 => exact HC0_2.out); rintro e w86 ⟨v354, rfl, ho0, hb⟩; have n0_ := Aside0.mk (Kd.R_lower ho0 (below_size (by repeat (first | (with_reducible first | exact HB.out | apply below_alloc | apply pw_below_drewN | apply below_drew1 | refine below_set ?_ GE350.out) | exact HB.out)))); have n1_ := Aside0.mk (blk_below (g := gb350) (o := .cells #[.int .i64 a0_0, .int .i64 a0_1, .slice A0_2 l0_2.length c0_2, .int .i64 a0_3] 24 (0, 0)) (by (with_reducible repeat (first | refine blk_drewN ?_ _ | refine blk_drew ?_ | refine blk_alloc ?_ _)); exact BK350.out) hb); have n2_ := Aside0.mk (below_step (by repeat (first | (with_reducible first | exact HB.out | apply below_alloc | apply pw_below_drewN | apply below_drew1 | refine below_set ?_ GE350.out) | exact HB.out)) hb); clear BK350; clear HB; have HO355 := n0_; have BK350 := n1_; have HB := n2_; clear n0_ n1_ n2_; (try clear hb); (try clear hb2); (try clear hk); (try clear hi); (try clear ho0)))
        repeat (go_quiet (first | ((with_reducible refine gate_dst (N := 2) rfl ?_); refine box_event ?hg (N := 2) ?hd (cs := #[.int .i64 a0_0, .int .i64 a0_1, .slice A0_2 l0_2.length c0_2, .int .i64 a0_3]) (t := 24) ?hr ?_; (case hd => rfl); (case hg => rfl); (case hr => first | (go_simp; done) | (go_simp; rfl)); intro gb350 hg w81 hbox hb; have n0_ := Aside0.mk (below_step (by repeat (first | (with_reducible first | exact HB.out | apply below_alloc | apply pw_below_drewN | apply below_drew1) | exact HB.out)) hb); have n1_ := Aside0.mk (hbox); have n2_ := Aside0.mk ((by rw [hg]; exact (below_size (by repeat (first | (with_reducible first | exact HB.out | apply below_alloc | apply pw_below_drewN | apply below_drew1) | exact HB.out))) : w.heap.size ≤ gb350)); have n3_ := Aside0.mk ((by rw [hg]; exact (below_size (by repeat (first | (with_reducible first | exact HB.out | apply below_alloc | apply pw_below_drewN | apply below_drew1) | exact HB.out))) : w.heap.size ≤ gb350)); clear HB; have HB := n0_; have BK350 := n1_; have GW350 := n2_; have GE350 := n3_; clear n0_ n1_ n2_ n3_; clear hb hbox hg) | (go_at_call 9; (with_reducible refine (lombardlaw08_alive.calls k  true _ A3.out).mono ?_); rintro e w82 ⟨rfl, hb⟩; have n0_ := Aside0.mk (blk_below (g := gb350) (o := .cells #[.int .i64 a0_0, .int .i64 a0_1, .slice A0_2 l0_2.length c0_2, .int .i64 a0_3] 24 (0, 0)) (by (with_reducible repeat (first | refine blk_drewN ?_ _ | refine blk_drew ?_ | refine blk_alloc ?_ _)); exact BK350.out) hb); have n1_ := Aside0.mk (below_step (by repeat (first | (with_reducible first | exact HB.out | apply below_alloc | apply pw_below_drewN | apply below_drew1 | refine below_set ?_ GE350.out) | exact HB.out)) hb); clear BK350; clear HB; have BK350 := n0_; have HB := n1_; clear n0_ n1_; (try clear hb); (try clear hb2); (try clear hk); (try clear hi); have hcz83_0 : w82.cell? ⟨gb350, 0, none⟩ = some (.int .i64 a0_0) := (blk_cell BK350.out 0).trans rfl; have hcz83_1 : w82.cell? ⟨gb350, 1, none⟩ = some (.int .i64 a0_1) := (blk_cell BK350.out 1).trans rfl; have hcz83_2 : w82.cell? ⟨gb350, 2, none⟩ = some (.slice A0_2 l0_2.length c0_2) := (blk_cell BK350.out 2).trans rfl; have hcz83_3 : w82.cell? ⟨gb350, 3, none⟩ = some (.int .i64 a0_3) := (blk_cell BK350.out 3).trans rfl; have hfz83_0 := blk_frozen BK350.out 0; have hfz83_1 := blk_frozen BK350.out 1; have hfz83_2 := blk_frozen BK350.out 2; have hfz83_3 := blk_frozen BK350.out 3) | (go_at_call 10; (with_reducible refine (lombardlaw08_great.calls a0_0 a0_1 _ _ l0_2 a0_3 false _ ?side1 ?side2 A5.out).mono ?_); (case side1 => repeat (first | exact (Kd.C_below HR0_2.out HB.out) | (with_reducible refine Kd.C_alloc ?_ _) | (with_reducible refine Kd.C_drewN ?_ _) | (with_reducible refine Kd.C_drew ?_))); (case side2 => exact HC0_2.out); rintro e w84 ⟨rfl, hb⟩; have n0_ := Aside0.mk (blk_below (g := gb350) (o := .cells #[.int .i64 a0_0, .int .i64 a0_1, .slice A0_2 l0_2.length c0_2, .int .i64 a0_3] 24 (0, 0)) (by (with_reducible repeat (first | refine blk_drewN ?_ _ | refine blk_drew ?_ | refine blk_alloc ?_ _)); exact BK350.out) hb); have n1_ := Aside0.mk (below_step (by repeat (first | (with_reducible first | exact HB.out | apply below_alloc | apply pw_below_drewN | apply below_drew1 | refine below_set ?_ GE350.out) | exact HB.out)) hb); clear BK350; clear HB; have BK350 := n0_; have HB := n1_; clear n0_ n1_; (try clear hb); (try clear hb2); (try clear hk); (try clear hi); have hcz85_0 : w84.cell? ⟨gb350, 0, none⟩ = some (.int .i64 a0_0) := (blk_cell BK350.out 0).trans rfl; have hcz85_1 : w84.cell? ⟨gb350, 1, none⟩ = some (.int .i64 a0_1) := (blk_cell BK350.out 1).trans rfl; have hcz85_2 : w84.cell? ⟨gb350, 2, none⟩ = some (.slice A0_2 l0_2.length c0_2) := (blk_cell BK350.out 2).trans rfl; have hcz85_3 : w84.cell? ⟨gb350, 3, none⟩ = some (.int .i64 a0_3) := (blk_cell BK350.out 3).trans rfl; have hfz85_0 := blk_frozen BK350.out 0; have hfz85_1 := blk_frozen BK350.out 1; have hfz85_2 := blk_frozen BK350.out 2; have hfz85_3 := blk_frozen BK350.out 3) | (go_at_call 11; (with_reducible refine (sched_Build.calls k a0_0 a0_1 _ _ l0_2 a0_3 t353 t356 _ ?side1 ?side2 A11.out).mono ?_); (case side1 => repeat (first | exact (Kd.C_below HR0_2.out HB.out) | (with_reducible refine Kd.C_alloc ?_ _) | (with_reducible refine Kd.C_drewN ?_ _) | (with_reducible refine Kd.C_drew ?_))); (case side2 => exact HC0_2.out); rintro e w86 ⟨v354, rfl, ho0, hb⟩; have n0_ := Aside0.mk (Kd.R_lower ho0 (below_size (by repeat (first | (with_reducible first | exact HB.out | apply below_alloc | apply pw_below_drewN | apply below_drew1 | refine below_set ?_ GE350.out) | exact HB.out)))); have n1_ := Aside0.mk (blk_below (g := gb350) (o := .cells #[.int .i64 a0_0, .int .i64 a0_1, .slice A0_2 l0_2.length c0_2, .int .i64 a0_3] 24 (0, 0)) (by (with_reducible repeat (first | refine blk_drewN ?_ _ | refine blk_drew ?_ | refine blk_alloc ?_ _)); exact BK350.out) hb); have n2_ := Aside0.mk (below_step (by repeat (first | (with_reducible first | exact HB.out | apply below_alloc | apply pw_below_drewN | apply below_drew1 | refine below_set ?_ GE350.out) | exact HB.out)) hb); clear BK350; clear HB; have HO355 := n0_; have BK350 := n1_; have HB := n2_; clear n0_ n1_ n2_; (try clear hb); (try clear hb2); (try clear hk); (try clear hi); (try clear ho0))); try go_wp2_with (first | ((with_reducible refine gate_dst (N := 2) rfl ?_); refine box_event ?hg (N := 2) ?hd (cs := #[.int .i64 a0_0, .int .i64 a0_1, .slice A0_2 l0_2.length c0_2, .int .i64 a0_3]) (t := 24) ?hr ?_; (case hd => rfl); (case hg => rfl); (case hr => first | (go_simp; done) | (go_simp; rfl)); intro gb350 hg w81 hbox hb; have n0_ := Aside0.mk (below_step (by repeat (first | (with_reducible first | exact HB.out | apply below_alloc | apply pw_below_drewN | apply below_drew1) | exact HB.out)) hb); have n1_ := Aside0.mk (hbox); have n2_ := Aside0.mk ((by rw [hg]; exact (below_size (by repeat (first | (with_reducible first | exact HB.out | apply below_alloc | apply pw_below_drewN | apply below_drew1) | exact HB.out))) : w.heap.size ≤ gb350)); have n3_ := Aside0.mk ((by rw [hg]; exact (below_size (by repeat (first | (with_reducible first | exact HB.out | apply below_alloc | apply pw_below_drewN | apply below_drew1) | exact HB.out))) : w.heap.size ≤ gb350)); clear HB; have HB := n0_; have BK350 := n1_; have GW350 := n2_; have GE350 := n3_; clear n0_ n1_ n2_ n3_; clear hb hbox hg) | (go_at_call 9; (with_reducible refine (lombardlaw08_alive.calls k  true _ A3.out).mono ?_); rintro e w82 ⟨rfl, hb⟩; have n0_ := Aside0.mk (blk_below (g := gb350) (o := .cells #[.int .i64 a0_0, .int .i64 a0_1, .slice A0_2 l0_2.length c0_2, .int .i64 a0_3] 24 (0, 0)) (by (with_reducible repeat (first | refine blk_drewN ?_ _ | refine blk_drew ?_ | refine blk_alloc ?_ _)); exact BK350.out) hb); have n1_ := Aside0.mk (below_step (by repeat (first | (with_reducible first | exact HB.out | apply below_alloc | apply pw_below_drewN | apply below_drew1 | refine below_set ?_ GE350.out) | exact HB.out)) hb); clear BK350; clear HB; have BK350 := n0_; have HB := n1_; clear n0_ n1_; (try clear hb); (try clear hb2); (try clear hk); (try clear hi); have hcz83_0 : w82.cell? ⟨gb350, 0, none⟩ = some (.int .i64 a0_0) := (blk_cell BK350.out 0).trans rfl; have hcz83_1 : w82.cell? ⟨gb350, 1, none⟩ = some (.int .i64 a0_1) := (blk_cell BK350.out 1).trans rfl; have hcz83_2 : w82.cell? ⟨gb350, 2, none⟩ = some (.slice A0_2 l0_2.length c0_2) := (blk_cell BK350.out 2).trans rfl; have hcz83_3 : w82.cell? ⟨gb350, 3, none⟩ = some (.int .i64 a0_3) := (blk_cell BK350.out 3).trans rfl; have hfz83_0 := blk_frozen BK350.out 0; have hfz83_1 := blk_frozen BK350.out 1; have hfz83_2 := blk_frozen BK350.out 2; have hfz83_3 := blk_frozen BK350.out 3) | (go_at_call 10; (with_reducible refine (lombardlaw08_great.calls a0_0 a0_1 _ _ l0_2 a0_3 false _ ?side1 ?side2 A5.out).mono ?_); (case side1 => repeat (first | exact (Kd.C_below HR0_2.out HB.out) | (with_reducible refine Kd.C_alloc ?_ _) | (with_reducible refine Kd.C_drewN ?_ _) | (with_reducible refine Kd.C_drew ?_))); (case side2 => exact HC0_2.out); rintro e w84 ⟨rfl, hb⟩; have n0_ := Aside0.mk (blk_below (g := gb350) (o := .cells #[.int .i64 a0_0, .int .i64 a0_1, .slice A0_2 l0_2.length c0_2, .int .i64 a0_3] 24 (0, 0)) (by (with_reducible repeat (first | refine blk_drewN ?_ _ | refine blk_drew ?_ | refine blk_alloc ?_ _)); exact BK350.out) hb); have n1_ := Aside0.mk (below_step (by repeat (first | (with_reducible first | exact HB.out | apply below_alloc | apply pw_below_drewN | apply below_drew1 | refine below_set ?_ GE350.out) | exact HB.out)) hb); clear BK350; clear HB; have BK350 := n0_; have HB := n1_; clear n0_ n1_; (try clear hb); (try clear hb2); (try clear hk); (try clear hi); have hcz85_0 : w84.cell? ⟨gb350, 0, none⟩ = some (.int .i64 a0_0) := (blk_cell BK350.out 0).trans rfl; have hcz85_1 : w84.cell? ⟨gb350, 1, none⟩ = some (.int .i64 a0_1) := (blk_cell BK350.out 1).trans rfl; have hcz85_2 : w84.cell? ⟨gb350, 2, none⟩ = some (.slice A0_2 l0_2.length c0_2) := (blk_cell BK350.out 2).trans rfl; have hcz85_3 : w84.cell? ⟨gb350, 3, none⟩ = some (.int .i64 a0_3) := (blk_cell BK350.out 3).trans rfl; have hfz85_0 := blk_frozen BK350.out 0; have hfz85_1 := blk_frozen BK350.out 1; have hfz85_2 := blk_frozen BK350.out 2; have hfz85_3 := blk_frozen BK350.out 3) | (go_at_call 11; (with_reducible refine (sched_Build.calls k a0_0 a0_1 _ _ l0_2 a0_3 t353 t356 _ ?side1 ?side2 A11.out).mono ?_); (case side1 => repeat (first | exact (Kd.C_below HR0_2.out HB.out) | (with_reducible refine Kd.C_alloc ?_ _) | (with_reducible refine Kd.C_drewN ?_ _) | (with_reducible refine Kd.C_drew ?_))); (case side2 => exact HC0_2.out); rintro e w86 ⟨v354, rfl, ho0, hb⟩; have n0_ := Aside0.mk (Kd.R_lower ho0 (below_size (by repeat (first | (with_reducible first | exact HB.out | apply below_alloc | apply pw_below_drewN | apply below_drew1 | refine below_set ?_ GE350.out) | exact HB.out)))); have n1_ := Aside0.mk (blk_below (g := gb350) (o := .cells #[.int .i64 a0_0, .int .i64 a0_1, .slice A0_2 l0_2.length c0_2, .int .i64 a0_3] 24 (0, 0)) (by (with_reducible repeat (first | refine blk_drewN ?_ _ | refine blk_drew ?_ | refine blk_alloc ?_ _)); exact BK350.out) hb); have n2_ := Aside0.mk (below_step (by repeat (first | (with_reducible first | exact HB.out | apply below_alloc | apply pw_below_drewN | apply below_drew1 | refine below_set ?_ GE350.out) | exact HB.out)) hb); clear BK350; clear HB; have HO355 := n0_; have BK350 := n1_; have HB := n2_; clear n0_ n1_ n2_; (try clear hb); (try clear hb2); (try clear hk); (try clear hi); (try clear ho0))))
        go_ret
        exact ⟨by first | rfl | (simp [errW_none, errW_some] <;> rfl) | (simp [*, errW_none, errW_some] <;> rfl), by repeat (first | (with_reducible first | exact HB.out | apply below_alloc | apply pw_below_drewN | apply below_drew1 | refine below_set ?_ GE350.out) | exact HB.out)⟩
  · replace c4 := Bool.eq_false_iff.mpr c4
    subst c4
    have H1 : (some false) = some r := by rw [if_neg (show ¬ (false = true) by decide)] at H; exact H
    clear H
    have H := H1
    clear H1
    obtain rfl := Option.some.inj H
    go_enter Try.func8, Try.ntmps8
    go_wp2_with (first | ((with_reducible refine gate_dst (N := 2) rfl ?_); refine box_event ?hg (N := 2) ?hd (cs := #[.int .i64 a0_0, .int .i64 a0_1, .slice A0_2 l0_2.length c0_2, .int .i64 a0_3]) (t := 24) ?hr ?_; (case hd => rfl); (case hg => rfl); (case hr => first | (go_simp; done) | (go_simp; rfl)); intro gb350 hg w87 hbox hb; have n0_ := Aside0.mk (below_step (by repeat (first | (with_reducible first | exact HB.out | apply below_alloc | apply pw_below_drewN | apply below_drew1) | exact HB.out)) hb); have n1_ := Aside0.mk (hbox); have n2_ := Aside0.mk ((by rw [hg]; exact (below_size (by repeat (first | (with_reducible first | exact HB.out | apply below_alloc | apply pw_below_drewN | apply below_drew1) | exact HB.out))) : w.heap.size ≤ gb350)); have n3_ := Aside0.mk ((by rw [hg]; exact (below_size (by repeat (first | (with_reducible first | exact HB.out | apply below_alloc | apply pw_below_drewN | apply below_drew1) | exact HB.out))) : w.heap.size ≤ gb350)); clear HB; have HB := n0_; have BK350 := n1_; have GW350 := n2_; have GE350 := n3_; clear n0_ n1_ n2_ n3_; clear hb hbox hg) | (go_at_call 9; (with_reducible refine (lombardlaw08_alive.calls k  false _ A3.out).mono ?_); rintro e w88 ⟨rfl, hb⟩; have n0_ := Aside0.mk (blk_below (g := gb350) (o := .cells #[.int .i64 a0_0, .int .i64 a0_1, .slice A0_2 l0_2.length c0_2, .int .i64 a0_3] 24 (0, 0)) (by (with_reducible repeat (first | refine blk_drewN ?_ _ | refine blk_drew ?_ | refine blk_alloc ?_ _)); exact BK350.out) hb); have n1_ := Aside0.mk (below_step (by repeat (first | (with_reducible first | exact HB.out | apply below_alloc | apply pw_below_drewN | apply below_drew1 | refine below_set ?_ GE350.out) | exact HB.out)) hb); clear BK350; clear HB; have BK350 := n0_; have HB := n1_; clear n0_ n1_; (try clear hb); (try clear hb2); (try clear hk); (try clear hi)))
    repeat (go_quiet (first | ((with_reducible refine gate_dst (N := 2) rfl ?_); refine box_event ?hg (N := 2) ?hd (cs := #[.int .i64 a0_0, .int .i64 a0_1, .slice A0_2 l0_2.length c0_2, .int .i64 a0_3]) (t := 24) ?hr ?_; (case hd => rfl); (case hg => rfl); (case hr => first | (go_simp; done) | (go_simp; rfl)); intro gb350 hg w87 hbox hb; have n0_ := Aside0.mk (below_step (by repeat (first | (with_reducible first | exact HB.out | apply below_alloc | apply pw_below_drewN | apply below_drew1) | exact HB.out)) hb); have n1_ := Aside0.mk (hbox); have n2_ := Aside0.mk ((by rw [hg]; exact (below_size (by repeat (first | (with_reducible first | exact HB.out | apply below_alloc | apply pw_below_drewN | apply below_drew1) | exact HB.out))) : w.heap.size ≤ gb350)); have n3_ := Aside0.mk ((by rw [hg]; exact (below_size (by repeat (first | (with_reducible first | exact HB.out | apply below_alloc | apply pw_below_drewN | apply below_drew1) | exact HB.out))) : w.heap.size ≤ gb350)); clear HB; have HB := n0_; have BK350 := n1_; have GW350 := n2_; have GE350 := n3_; clear n0_ n1_ n2_ n3_; clear hb hbox hg) | (go_at_call 9; (with_reducible refine (lombardlaw08_alive.calls k  false _ A3.out).mono ?_); rintro e w88 ⟨rfl, hb⟩; have n0_ := Aside0.mk (blk_below (g := gb350) (o := .cells #[.int .i64 a0_0, .int .i64 a0_1, .slice A0_2 l0_2.length c0_2, .int .i64 a0_3] 24 (0, 0)) (by (with_reducible repeat (first | refine blk_drewN ?_ _ | refine blk_drew ?_ | refine blk_alloc ?_ _)); exact BK350.out) hb); have n1_ := Aside0.mk (below_step (by repeat (first | (with_reducible first | exact HB.out | apply below_alloc | apply pw_below_drewN | apply below_drew1 | refine below_set ?_ GE350.out) | exact HB.out)) hb); clear BK350; clear HB; have BK350 := n0_; have HB := n1_; clear n0_ n1_; (try clear hb); (try clear hb2); (try clear hk); (try clear hi))); try go_wp2_with (first | ((with_reducible refine gate_dst (N := 2) rfl ?_); refine box_event ?hg (N := 2) ?hd (cs := #[.int .i64 a0_0, .int .i64 a0_1, .slice A0_2 l0_2.length c0_2, .int .i64 a0_3]) (t := 24) ?hr ?_; (case hd => rfl); (case hg => rfl); (case hr => first | (go_simp; done) | (go_simp; rfl)); intro gb350 hg w87 hbox hb; have n0_ := Aside0.mk (below_step (by repeat (first | (with_reducible first | exact HB.out | apply below_alloc | apply pw_below_drewN | apply below_drew1) | exact HB.out)) hb); have n1_ := Aside0.mk (hbox); have n2_ := Aside0.mk ((by rw [hg]; exact (below_size (by repeat (first | (with_reducible first | exact HB.out | apply below_alloc | apply pw_below_drewN | apply below_drew1) | exact HB.out))) : w.heap.size ≤ gb350)); have n3_ := Aside0.mk ((by rw [hg]; exact (below_size (by repeat (first | (with_reducible first | exact HB.out | apply below_alloc | apply pw_below_drewN | apply below_drew1) | exact HB.out))) : w.heap.size ≤ gb350)); clear HB; have HB := n0_; have BK350 := n1_; have GW350 := n2_; have GE350 := n3_; clear n0_ n1_ n2_ n3_; clear hb hbox hg) | (go_at_call 9; (with_reducible refine (lombardlaw08_alive.calls k  false _ A3.out).mono ?_); rintro e w88 ⟨rfl, hb⟩; have n0_ := Aside0.mk (blk_below (g := gb350) (o := .cells #[.int .i64 a0_0, .int .i64 a0_1, .slice A0_2 l0_2.length c0_2, .int .i64 a0_3] 24 (0, 0)) (by (with_reducible repeat (first | refine blk_drewN ?_ _ | refine blk_drew ?_ | refine blk_alloc ?_ _)); exact BK350.out) hb); have n1_ := Aside0.mk (below_step (by repeat (first | (with_reducible first | exact HB.out | apply below_alloc | apply pw_below_drewN | apply below_drew1 | refine below_set ?_ GE350.out) | exact HB.out)) hb); clear BK350; clear HB; have BK350 := n0_; have HB := n1_; clear n0_ n1_; (try clear hb); (try clear hb2); (try clear hk); (try clear hi))))
    go_ret
    exact ⟨by first | rfl | (simp [errW_none, errW_some] <;> rfl) | (simp [*, errW_none, errW_some] <;> rfl), by repeat (first | (with_reducible first | exact HB.out | apply below_alloc | apply pw_below_drewN | apply below_drew1 | refine below_set ?_ GE350.out) | exact HB.out)⟩

/-- THE PURE STATEMENT of lombardlaw08_SchedRates. -/
def lombardlaw08_SchedRates.Pure : Prop := ∀ (a0_0 : Int) (a0_1 : Int) (l0_2 : List Int) (a0_3 : Int) (a1 : Int), (Lit.int .i64 a0_0).wf = true → (Lit.int .i64 a0_1).wf = true → (l0_2.length ≤ maxLen ∧ ∀ y_ ∈ l0_2, (Lit.int .i64 y_).wf = true) → (Lit.int .i64 a0_3).wf = true → (Lit.int .u32 a1).wf = true → ∃ k, lombardlaw08_SchedRates.f k a0_0 a0_1 l0_2 a0_3 a1 = some true
theorem lombardlaw08_SchedRates.walk (P : lombardlaw08_SchedRates.Pure) (a0_0 : Int) (a0_1 : Int) (A0_2 : Option Addr) (c0_2 : Nat) (l0_2 : List Int) (a0_3 : Int) (a1 : Int) (w : World) (hr0_2 : Kd.C (Kd.int .i64) w A0_2 l0_2.length l0_2) (hc0_2 : l0_2.length ≤ c0_2) (hg0_0 : (Lit.int .i64 a0_0).wf = true) (hg0_1 : (Lit.int .i64 a0_1).wf = true) (hg0_2 : (l0_2.length ≤ maxLen ∧ ∀ y_ ∈ l0_2, (Lit.int .i64 y_).wf = true)) (hg0_3 : (Lit.int .i64 a0_3).wf = true) (hg1 : (Lit.int .u32 a1).wf = true) :
    Calls Try.prog 8 #[.agg #[.int .i64 a0_0, .int .i64 a0_1, .slice A0_2 l0_2.length c0_2, .int .i64 a0_3], .int .u32 a1] w fun e w' => e = .returned (.bool true) ∧ Below w.heap.size w w' := by
  obtain ⟨k, h⟩ := P a0_0 a0_1 l0_2 a0_3 a1 hg0_0 hg0_1 hg0_2 hg0_3 hg1
  refine (lombardlaw08_SchedRates.calls k a0_0 a0_1 A0_2 c0_2 l0_2 a0_3 a1 true w hr0_2 hc0_2 h).mono ?_
  rintro e w' ⟨rfl, hd⟩
  exact ⟨rfl, hd⟩

end Go.Proofs.Ytchpeobenlnemaa.S
end
