/- Printed by a program of this session out of the translation: what each function called here computes, and that its call comes to just that. Conditions: none beyond those that each theorem names. -/
import Derived.Test.YtchpeobenlnemaaSx0
namespace Go.Proofs.Ytchpeobenlnemaa.S
open Go.RowKit Go.Proofs.YtchpeobenlnemaaW.PrintWords Go.Proofs.YtchpeobenlnemaaW.PrintLast Go.Proofs.YtchpeobenlnemaaW.PrintMore
attribute [local go_sem] max2_int min2_int max_two min_two max_three min_three max_four min_four   -- for this text's walks alone
attribute [local go_sem] Go.Proofs.Ytchpeobenlnemaa.XWalk.cell2
set_option linter.unusedVariables false
set_option linter.unusedSimpArgs false

/-! ### lombardref01_part: function 47 -/
mutual
def lombardref01_part.l0 : Nat → Int → Int → Int → Int → Int → Int → Option (Int)
 | 0, _, _, _, _, _, _ => none
 | k + 1, x0, x1, x2, x7, x8, x9 => if x9 ≥ 0 then (if (wrap64 (x8 * 2)) ≥ x2 then (lombardref01_part.j1 k x0 x1 x2 (wrap64 ((wrap64 (x7 * 2)) + 1)) (wrap64 ((wrap64 (x8 * 2)) - x2)) x9) else (lombardref01_part.j1 k x0 x1 x2 (wrap64 (x7 * 2)) (wrap64 (x8 * 2)) x9)) else (some x7)
def lombardref01_part.j1 : Nat → Int → Int → Int → Int → Int → Int → Option (Int)
 | 0, _, _, _, _, _, _ => none
 | k + 1, x0, x1, x2, x7, x8, x9 => if 0 ≤ (IntKind.u64.wrap (x9)) then (if (Go.bits .and .i64 (shr .i64 x0 (IntKind.u64.wrap (x9))) 1) = 1 then (if x2 = 0 then (none) else (if (wrap64 (x8 + (Int.tmod x1 x2))) ≥ x2 then (lombardref01_part.l0 k x0 x1 x2 (wrap64 ((wrap64 (x7 + (wrap64 (Int.tdiv x1 x2)))) + 1)) (wrap64 ((wrap64 (x8 + (Int.tmod x1 x2))) - x2)) (wrap64 (x9 - 1))) else (lombardref01_part.l0 k x0 x1 x2 (wrap64 (x7 + (wrap64 (Int.tdiv x1 x2)))) (wrap64 (x8 + (Int.tmod x1 x2))) (wrap64 (x9 - 1))))) else (lombardref01_part.l0 k x0 x1 x2 x7 x8 (wrap64 (x9 - 1)))) else (none)
def lombardref01_part.f : Nat → Int → Int → Int → Option (Int)
 | 0, _, _, _ => none
 | k + 1, a0, a1, a2 => if a0 < 0 then ((lombardref01_part.f k (wrap64 (-a0)) a1 a2).bind fun t218 => (some (wrap64 (-t218)))) else (lombardref01_part.l0 k a0 a1 a2 0 0 62)
end
set_option maxHeartbeats 8000000 in
set_option maxRecDepth 100000 in
theorem lombardref01_part.calls (k : Nat) : ∀ (a0 : Int) (a1 : Int) (a2 : Int) (r : Int) (w : World) (h : lombardref01_part.f k a0 a1 a2 = some r),
  Calls Try.prog 47 #[.int .i64 a0, .int .i64 a1, .int .i64 a2] w fun e w' => e = .returned (.int .i64 r) ∧ Below w.heap.size w w' := by
 induction k using Nat.strongRecOn with
 | _ k ih =>
 intro a0 a1 a2 r w h
 cases k with
 | zero => exact absurd h (by simp [lombardref01_part.f])
 | succ k =>
 simp only [lombardref01_part.f] at h
 have HB := Aside0.mk (Below.refl w.heap.size w)
 have H : (if a0 < 0 then ((lombardref01_part.f k (wrap64 (-a0)) a1 a2).bind fun t218 => (some (wrap64 (-t218)))) else (lombardref01_part.l0 k a0 a1 a2 0 0 62)) = some r := h
 clear h
 by_cases c4 : a0 < 0
 ·rw [if_pos c4] at H
  have c4b0 : decide (a0 < 0) = true := decide_eq_true c4
  clear c4
  replace H := Option.bind_eq_some_iff.mp H
  obtain ⟨t218, A50, H⟩ := H
  replace H : (some (wrap64 (-t218))) = some r := H
  have A5 := Aside0.mk A50
  clear A50
  obtain rfl := Option.some.inj H
  go_enter Try.func47, Try.ntmps47
  go_wp2_with (first | ((with_reducible refine gate_callee (f := 47) rfl ?_); refine goesL_ (some 16) rfl rfl Try.func47 (by kernel_rfl) rfl #[.int .i64 (wrap64 (-a0)), .int .i64 a1, .int .i64 a2] rfl (by (try simp only [List.map_toArray, List.map_cons, List.map_nil]); first | done | rfl | (simp only [List.length_drop, List.length_take]; rfl)) ?_; (with_reducible refine (ih k (by omega) (wrap64 (-a0)) a1 a2 t218 _ A5.out).mono ?_); rintro e w6 ⟨rfl, hb⟩; refine ⟨_, rfl, ?_⟩; have n0_ := Aside0.mk (below_step (by repeat (first | (with_reducible first | exact HB.out | apply below_alloc | apply pw_below_drewN | apply below_drew1) | exact HB.out)) hb); clear HB; have HB := n0_; clear n0_; (try clear hb); (try clear hb2); (try clear hk); (try clear hi)))
  go_ret
  exact ⟨by first | rfl | (simp [errW_none, errW_some] <;> rfl) | (simp [*, errW_none, errW_some] <;> rfl), by repeat (first | (with_reducible first | exact HB.out | apply below_alloc | apply pw_below_drewN | apply below_drew1) | exact HB.out)⟩
 ·rw [if_neg c4] at H
  have c4b0 : decide (a0 < 0) = false := decide_eq_false c4
  clear c4
  have H' := Aside0.mk H
  clear H
  go_enter Try.func47, Try.ntmps47
  go_wp2
  go_loopg [7, 8, 9] k (fun kq v7 v8 v9 w' => ∃ (x7_1 : Int) (x8_1 : Int) (x9_1 : Int), v7 = .int .i64 x7_1 ∧ v8 = .int .i64 x8_1 ∧ v9 = .int .i64 x9_1 ∧ Aside0 (lombardref01_part.l0 kq a0 a1 a2 x7_1 x8_1 x9_1 = some r) ∧ Aside0 (kq ≤ k) ∧ Aside0 (Below w.heap.size w w'))
  case atStart => exact ⟨(0), (0), (62), (by first | rfl | (simp; done) | (simp [*]; done)), (by first | rfl | (simp; done) | (simp [*]; done)), (by first | rfl | (simp; done) | (simp [*]; done)), H', ⟨Nat.le_refl _⟩, ⟨by repeat (first | (with_reducible first | exact HB.out | apply below_alloc | apply pw_below_drewN | apply below_drew1) | exact HB.out)⟩⟩
  case round =>
   clear H'
   repeat first | clear p2 | clear c4 | clear c4b0 | clear p6
   obtain ⟨x7_1, x8_1, x9_1, rfl, rfl, rfl, HA, HK1, HB⟩ := hrel
   cases gk with
   | zero => exact absurd HA.out (by simp [lombardref01_part.l0])
   | succ k1 =>
    have H := HA.out
    clear HA
    simp only [lombardref01_part.l0] at H
    by_cases c7 : x9_1 ≥ 0
    ·rw [if_pos c7] at H
     have c7b0 : decide (0 ≤ x9_1) = true := decide_eq_true c7
     clear c7
     have HC8 := Aside0.mk H
     clear H
     go_upto_if 28 with (fail)
     go_cut [7, 8] (fun v7 v8 wc => ∃ (kq : Nat) (x7_7 : Int) (x8_7 : Int), v7 = .int .i64 x7_7 ∧ v8 = .int .i64 x8_7 ∧ Aside0 (lombardref01_part.j1 kq a0 a1 a2 x7_7 x8_7 x9_1 = some r) ∧ Aside0 (kq ≤ k1) ∧ Aside0 (Below w.heap.size w wc))
     case first =>
      have H := HC8.out
      clear HC8
      by_cases c9 : (wrap64 (x8_1 * 2)) ≥ a2
      ·rw [if_pos c9] at H
       have c9b0 : decide (a2 ≤ (wrap64 (x8_1 * 2))) = true := decide_eq_true c9
       clear c9
       (first | rw [c9b0] | (simp only [i64_w, i32_w]; rw [c9b0]) | skip)
       have H' := Aside0.mk H
       clear H
       go_wp2
       go_meet
       case rel => exact ⟨_, (wrap64 ((wrap64 (x7_1 * 2)) + 1)), (wrap64 ((wrap64 (x8_1 * 2)) - a2)), (by first | rfl | (simp; done) | (simp [*]; done)), (by first | rfl | (simp; done) | (simp [*]; done)), H', ⟨by have := HK1.out; first | omega | exact Nat.le_refl _⟩, ⟨by repeat (first | (with_reducible first | exact HB.out | apply below_alloc | apply pw_below_drewN | apply below_drew1) | exact HB.out)⟩⟩
      ·rw [if_neg c9] at H
       have c9b0 : decide (a2 ≤ (wrap64 (x8_1 * 2))) = false := decide_eq_false c9
       clear c9
       (first | rw [c9b0] | (simp only [i64_w, i32_w]; rw [c9b0]) | skip)
       have H' := Aside0.mk H
       clear H
       go_wp2
       go_meet
       case rel => exact ⟨_, (wrap64 (x7_1 * 2)), (wrap64 (x8_1 * 2)), (by first | rfl | (simp; done) | (simp [*]; done)), (by first | rfl | (simp; done) | (simp [*]; done)), H', ⟨by have := HK1.out; first | omega | exact Nat.le_refl _⟩, ⟨by repeat (first | (with_reducible first | exact HB.out | apply below_alloc | apply pw_below_drewN | apply below_drew1) | exact HB.out)⟩⟩
     case rest =>
      clear HC8
      repeat first | clear p2 | clear c4 | clear c4b0 | clear p6 | clear c7 | clear c7b0 | clear c9 | clear c9b0 | clear p2 | clear p6
      obtain ⟨kq, x7_7, x8_7, rfl, rfl, HA, HJ7, HB⟩ := hcut
      cases kq with
      | zero => exact absurd HA.out (by simp [lombardref01_part.j1])
      | succ kj7 =>
       have H := HA.out
       clear HA
       simp only [lombardref01_part.j1] at H
       obtain ⟨ji10, hji10⟩ : ∃ j_ : Int, (IntKind.u64.wrap (x9_1)) = j_ := ⟨_, rfl⟩
       replace H : (if 0 ≤ (ji10) then (if (Go.bits .and .i64 (shr .i64 a0 (ji10)) 1) = 1 then (if a2 = 0 then (none) else (if (wrap64 (x8_7 + (Int.tmod a1 a2))) ≥ a2 then (lombardref01_part.l0 kj7 a0 a1 a2 (wrap64 ((wrap64 (x7_7 + (wrap64 (Int.tdiv a1 a2)))) + 1)) (wrap64 ((wrap64 (x8_7 + (Int.tmod a1 a2))) - a2)) (wrap64 (x9_1 - 1))) else (lombardref01_part.l0 kj7 a0 a1 a2 (wrap64 (x7_7 + (wrap64 (Int.tdiv a1 a2)))) (wrap64 (x8_7 + (Int.tmod a1 a2))) (wrap64 (x9_1 - 1))))) else (lombardref01_part.l0 kj7 a0 a1 a2 x7_7 x8_7 (wrap64 (x9_1 - 1)))) else (none)) = some r := by first | (rw [hji10] at H; exact H) | (simp only [hji10] at H ⊢; exact H)
       by_cases c11 : 0 ≤ (ji10)
       ·rw [if_pos c11] at H
        have c11b0 := eq_true c11
        have c11b1 : decide (0 ≤ (ji10)) = true := decide_eq_true c11
        clear c11
        obtain ⟨ji12, hji12⟩ : ∃ j_ : Int, (shr .i64 a0 (ji10)) = j_ := ⟨_, rfl⟩
        replace H : (if (Go.bits .and .i64 (ji12) 1) = 1 then (if a2 = 0 then (none) else (if (wrap64 (x8_7 + (Int.tmod a1 a2))) ≥ a2 then (lombardref01_part.l0 kj7 a0 a1 a2 (wrap64 ((wrap64 (x7_7 + (wrap64 (Int.tdiv a1 a2)))) + 1)) (wrap64 ((wrap64 (x8_7 + (Int.tmod a1 a2))) - a2)) (wrap64 (x9_1 - 1))) else (lombardref01_part.l0 kj7 a0 a1 a2 (wrap64 (x7_7 + (wrap64 (Int.tdiv a1 a2)))) (wrap64 (x8_7 + (Int.tmod a1 a2))) (wrap64 (x9_1 - 1))))) else (lombardref01_part.l0 kj7 a0 a1 a2 x7_7 x8_7 (wrap64 (x9_1 - 1)))) = some r := by first | (rw [hji12] at H; exact H) | (simp only [hji12] at H ⊢; exact H)
        have hji12_ : (a0 / 2 ^ min (ji10).toNat 64) = ji12 := hji12
        have hji12z : (ji10) ≤ 64 → (a0 / 2 ^ (ji10).toNat) = ji12 := shr_small hji12
        by_cases c13 : (Go.bits .and .i64 (ji12) 1) = 1
        ·rw [if_pos c13] at H
         have c13b0 : ((Go.bits .and .i64 (ji12) 1) == 1) = true := beq_iff_eq.mpr c13
         have c13b1 : ((Go.bits .and .i64 (ji12) 1) != 1) = false := bne_eq_false_iff_eq.mpr c13
         clear c13
         by_cases c14 : a2 = 0
         ·rw [if_pos c14] at H
          exact absurd H (by simp)
         ·rw [if_neg c14] at H
          have c14b0 : (a2 == 0) = false := beq_eq_false_iff_ne.mpr c14
          have c14b1 : (a2 != 0) = true := bne_iff_ne.mpr c14
          by_cases c15 : (wrap64 (x8_7 + (Int.tmod a1 a2))) ≥ a2
          ·rw [if_pos c15] at H
           have c15b0 : decide (a2 ≤ (wrap64 (x8_7 + (Int.tmod a1 a2)))) = true := decide_eq_true c15
           clear c15
           have H' := Aside0.mk H
           clear H
           go_wp2
           go_roundg kj7
           case measure => have := HK1.out; have := HJ7.out; omega
           case rel => exact ⟨(wrap64 ((wrap64 (x7_7 + (wrap64 (Int.tdiv a1 a2)))) + 1)), (wrap64 ((wrap64 (x8_7 + (Int.tmod a1 a2))) - a2)), (wrap64 (x9_1 - 1)), (by first | rfl | (simp; done) | (simp [*]; done)), (by first | rfl | (simp; done) | (simp [*]; done)), (by first | rfl | (simp; done) | (simp [*]; done)), H', ⟨by have := HK1.out; have := HJ7.out; omega⟩, ⟨by repeat (first | (with_reducible first | exact HB.out | apply below_alloc | apply pw_below_drewN | apply below_drew1) | exact HB.out)⟩⟩
          ·rw [if_neg c15] at H
           have c15b0 : decide (a2 ≤ (wrap64 (x8_7 + (Int.tmod a1 a2)))) = false := decide_eq_false c15
           clear c15
           have H' := Aside0.mk H
           clear H
           go_wp2
           go_roundg kj7
           case measure => have := HK1.out; have := HJ7.out; omega
           case rel => exact ⟨(wrap64 (x7_7 + (wrap64 (Int.tdiv a1 a2)))), (wrap64 (x8_7 + (Int.tmod a1 a2))), (wrap64 (x9_1 - 1)), (by first | rfl | (simp; done) | (simp [*]; done)), (by first | rfl | (simp; done) | (simp [*]; done)), (by first | rfl | (simp; done) | (simp [*]; done)), H', ⟨by have := HK1.out; have := HJ7.out; omega⟩, ⟨by repeat (first | (with_reducible first | exact HB.out | apply below_alloc | apply pw_below_drewN | apply below_drew1) | exact HB.out)⟩⟩
        ·rw [if_neg c13] at H
         have c13b0 : ((Go.bits .and .i64 (ji12) 1) == 1) = false := beq_eq_false_iff_ne.mpr c13
         have c13b1 : ((Go.bits .and .i64 (ji12) 1) != 1) = true := bne_iff_ne.mpr c13
         have H' := Aside0.mk H
         clear H
         go_wp2
         go_roundg kj7
         case measure => have := HK1.out; have := HJ7.out; omega
         case rel => exact ⟨(x7_7), (x8_7), (wrap64 (x9_1 - 1)), (by first | rfl | (simp; done) | (simp [*]; done)), (by first | rfl | (simp; done) | (simp [*]; done)), (by first | rfl | (simp; done) | (simp [*]; done)), H', ⟨by have := HK1.out; have := HJ7.out; omega⟩, ⟨by repeat (first | (with_reducible first | exact HB.out | apply below_alloc | apply pw_below_drewN | apply below_drew1) | exact HB.out)⟩⟩
       ·rw [if_neg c11] at H
        exact absurd H (by simp)
    ·rw [if_neg c7] at H
     have c7b0 : decide (0 ≤ x9_1) = false := decide_eq_false c7
     clear c7
     obtain rfl := Option.some.inj H
     go_wp2
     go_ret
     exact ⟨by first | rfl | (simp [errW_none, errW_some] <;> rfl) | (simp [*, errW_none, errW_some] <;> rfl), by repeat (first | (with_reducible first | exact HB.out | apply below_alloc | apply pw_below_drewN | apply below_drew1) | exact HB.out)⟩

end Go.Proofs.Ytchpeobenlnemaa.S
