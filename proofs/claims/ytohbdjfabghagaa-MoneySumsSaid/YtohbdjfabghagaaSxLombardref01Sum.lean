/- Printed by a program of this session out of the translation: what each function called here computes, and that its call comes to just that. Conditions: none beyond those that each theorem names. -/
import Derived.Test.YtohbdjfabghagaaSx0
import Derived.Test.YtohbdjfabghagaaSxLombardref01Add
namespace Go.Proofs.Ytohbdjfabghagaa.S
open Go.RowKit Go.Proofs.YtohbdjfabghagaaW.PrintWords Go.Proofs.YtohbdjfabghagaaW.PrintLast Go.Proofs.YtohbdjfabghagaaW.PrintMore
attribute [local go_sem] max2_int min2_int max_two min_two max_three min_three max_four min_four   -- for this text's walks alone
attribute [local go_sem] Go.Proofs.Ytohbdjfabghagaa.XWalk.cell2
set_option linter.unusedVariables false
set_option linter.unusedSimpArgs false

/-! ### lombardref01_Sum: function 22 -/
mutual
def lombardref01_Sum.l0 : Nat → List Int → Int → Option (Int × Int)
  | 0, _, _ => none
  | k + 1, x4, x5 => if (x4.length : Int) > 0 then (lombardref01_Sum.l1 k x4 x5 0 x4 (x4.length : Int) 0) else (some (x5, 0))
def lombardref01_Sum.l1 : Nat → List Int → Int → Int → List Int → Int → Int → Option (Int × Int)
  | 0, _, _, _, _, _, _ => none
  | k + 1, x4, x5, x6, x17, x18, x19 => if x19 < x18 then (if 0 ≤ x19 then (if x19 < (x17.length : Int) then (if (!((decide ((rd x17 x19) < 0)) == (decide (x5 < 0)))) = true then (lombardref01_Sum.l1 k x4 x5 x19 x17 x18 (wrap64 (x19 + 1))) else (lombardref01_Sum.l1 k x4 x5 x6 x17 x18 (wrap64 (x19 + 1)))) else (none)) else (none)) else (if 0 ≤ x6 then (if x6 < (x4.length : Int) then ((lombardref01_Add.f x5 (rd x4 x6)).bind fun bt200 => (if bt200.2 = 0 then (if x6 ≤ (x4.length : Int) then (if 0 ≤ (wrap64 (x6 + 1)) then (if (wrap64 (x6 + 1)) ≤ (x4.length : Int) then (lombardref01_Sum.l0 k (x4.eraseIdx (x6 : Int).toNat) bt200.1) else (none)) else (none)) else (none)) else (some (0, bt200.2)))) else (none)) else (none))
end
def lombardref01_Sum.f (k : Nat) (l0 : List Int) : Option (Int × Int) := (some (([] : List Int) : List Int)).bind fun y192 => (if y192.length + l0.length < 17592186044416 then (lombardref01_Sum.l0 k (y192 ++ l0) 0) else (none))
theorem lombardref01_Sum.mono_l : ∀ k, (∀ y0 y1, LeO (lombardref01_Sum.l0 k y0 y1) (lombardref01_Sum.l0 (k + 1) y0 y1)) ∧ (∀ y0 y1 y2 y3 y4 y5, LeO (lombardref01_Sum.l1 k y0 y1 y2 y3 y4 y5) (lombardref01_Sum.l1 (k + 1) y0 y1 y2 y3 y4 y5))
  | 0 => ⟨fun _ _ r h => by simp [lombardref01_Sum.l0] at h, fun _ _ _ _ _ _ r h => by simp [lombardref01_Sum.l1] at h⟩
  | k + 1 => by
    obtain ⟨ih0, ih1⟩ := lombardref01_Sum.mono_l k
    refine ⟨?_, ?_⟩
    · intro y0 y1
      unfold lombardref01_Sum.l0
      repeat' first
      | (with_reducible exact ih0 _ _)
      | (with_reducible exact ih1 _ _ _ _ _ _)
      | (with_reducible exact LeO.refl _)
      | (with_reducible exact LeO.none _)
      | (with_reducible refine LeO.ite ?_ ?_)
      | (with_reducible refine LeO.bind ?_ (fun _ => ?_))
      | exact ih0 _ _
      | exact ih1 _ _ _ _ _ _
      | exact LeO.none _
      | refine LeO.ite ?_ ?_
      | refine LeO.bind ?_ (fun _ => ?_)
    · intro y0 y1 y2 y3 y4 y5
      unfold lombardref01_Sum.l1
      repeat' first
      | (with_reducible exact ih0 _ _)
      | (with_reducible exact ih1 _ _ _ _ _ _)
      | (with_reducible exact LeO.refl _)
      | (with_reducible exact LeO.none _)
      | (with_reducible refine LeO.ite ?_ ?_)
      | (with_reducible refine LeO.bind ?_ (fun _ => ?_))
      | exact ih0 _ _
      | exact ih1 _ _ _ _ _ _
      | exact LeO.none _
      | refine LeO.ite ?_ ?_
      | refine LeO.bind ?_ (fun _ => ?_)
theorem lombardref01_Sum.mono : ∀ a0 k, LeO (lombardref01_Sum.f k a0) (lombardref01_Sum.f (k + 1) a0) := by
  intro a0 k
  obtain ⟨ih0, ih1⟩ := lombardref01_Sum.mono_l k
  unfold lombardref01_Sum.f
  repeat' first
      | (with_reducible exact ih0 _ _)
      | (with_reducible exact ih1 _ _ _ _ _ _)
      | (with_reducible exact LeO.refl _)
      | (with_reducible exact LeO.none _)
      | (with_reducible refine LeO.ite ?_ ?_)
      | (with_reducible refine LeO.bind ?_ (fun _ => ?_))
      | exact ih0 _ _
      | exact ih1 _ _ _ _ _ _
      | exact LeO.none _
      | refine LeO.ite ?_ ?_
      | refine LeO.bind ?_ (fun _ => ?_)
def lombardref01_Sum.T15 : Bool × List (List Nat × List Nat) := (true, [([], []), ([], []), ([0, 1], [0, 1]), ([], []), ([], []), ([4], [4]), ([3, 5], [3, 5]), ([2, 6], [2, 6]), ([7, 7, 0, 1, 2, 3, 4, 5, 6, 7], [0, 3, 7])])
def lombardref01_Sum.B15 : List Nat := [0, 0, 3, 0, 0, 16, 56, 127, 255]
theorem lombardref01_Sum.tab15 : rtab .any (opsOf Try.f22 15) = lombardref01_Sum.T15 := by kernel_rfl
theorem lombardref01_Sum.bits15 : waitsOk lombardref01_Sum.T15.2 lombardref01_Sum.B15 = true := by kernel_rfl
set_option maxHeartbeats 8000000 in
set_option maxRecDepth 100000 in
theorem lombardref01_Sum.calls (k : Nat) (A0 : Option Addr) (c0 : Nat) (l0 : List Int) (r1 : Int) (r2 : Int) (w : World) (hr0 : Kd.C (Kd.int .i64) w A0 l0.length l0) (hc0 : l0.length ≤ c0) (h : lombardref01_Sum.f k l0 = some (r1, r2)) :
    Calls Try.prog 22 #[.slice A0 l0.length c0] w fun e w' => e = .returned (.tuple #[.int .i64 r1, .int .i64 r2]) ∧ Below w.heap.size w w' := by
  have HR0 := Aside0.mk hr0
  have HC0 := Aside0.mk hc0
  clear hr0 hc0
  have HB := Aside0.mk (Below.refl w.heap.size w)
  have H : ((some (([] : List Int) : List Int)).bind fun y192 => (if y192.length + l0.length < 17592186044416 then (lombardref01_Sum.l0 k (y192 ++ l0) 0) else (none))) = some (r1, r2) := h
  clear h
  obtain ⟨y192, hy192⟩ : ∃ y_ : List Int, y_ = (([] : List Int)) := ⟨_, rfl⟩
  replace H : (if y192.length + l0.length < 17592186044416 then (lombardref01_Sum.l0 k (y192 ++ l0) 0) else (none)) = some (r1, r2) := by first | (rw [hy192]; with_reducible exact H) | (have H2_ := (Option.bind_some _ _).symm.trans H; rw [hy192]; with_reducible exact H2_) | (have H2_ := (Option.bind_some _ _).symm.trans H; with_reducible exact H2_) | with_reducible exact H | (rw [hy192]; exact H) | exact H
  have Ny192 := Aside0.mk hy192
  clear hy192
  by_cases c2 : y192.length + l0.length < 17592186044416
  · rw [if_pos c2] at H
    have LMc2 := Aside0.mk c2
    clear c2
    obtain ⟨y195, hy195⟩ : ∃ y_ : List Int, y_ = (y192 ++ l0) := ⟨_, rfl⟩
    replace H : (lombardref01_Sum.l0 k y195 0) = some (r1, r2) := by first | (rw [hy195]; with_reducible exact H) | (have H2_ := (Option.bind_some _ _).symm.trans H; rw [hy195]; with_reducible exact H2_) | (have H2_ := (Option.bind_some _ _).symm.trans H; with_reducible exact H2_) | with_reducible exact H | (rw [hy195]; exact H) | exact H
    have Ny195 := Aside0.mk hy195
    clear hy195
    have H' := Aside0.mk H
    clear H
    go_enter Try.func22, Try.ntmps22
    go_wp2_with (first | ((with_reducible refine gate_dst (N := 11) rfl ?_); refine Kd.R_lit (Kd.int .i64) _ 2 ?hg (N := 11) ?hd (xs := ([] : List Int)) (inner := []) (ok := fun _ => True) (okp := fun _ => True) ?hr ?hp (fun _ hk => hk) trivial (Below.refl _ _) (Nat.le_refl _) (by simp) ?_; (case hd => rfl); (case hg => rfl); (case hr => first | (go_simp; done) | (go_simp; rfl)); (case hp => exact (Reps.none _ _)); intro v193 w3 ho4 hb hg_ hnew_; clear hg_ hnew_; (first | rw [← Ny192.out] at ho4 | (simp only [Int.reduceToNat] at ho4; rw [← Ny192.out] at ho4)); have n0_ := Aside0.mk (Kd.R_lower ho4 (below_size (by repeat (first | (with_reducible first | exact HB.out | apply below_alloc | apply pw_below_drewN | apply below_drew1) | exact HB.out)))); have n1_ := Aside0.mk (below_step (by repeat (first | (with_reducible first | exact HB.out | apply below_alloc | apply pw_below_drewN | apply below_drew1) | exact HB.out)) hb); clear HB; have HO194 := n0_; have HB := n1_; clear n0_ n1_; clear hb ho4) | ((with_reducible refine gate_builtin (b := .append) (xs := #[.tmp 11, .tmp 12]) rfl ?_); at_builtin; refine Kd.R_append_rows (Kd.int .i64) (w0 := w) w.heap.size rfl (.tmp 11) (.tmp 12) 36 2 (.int .i64 0) 8 rfl Try.underlying36 info2 rfl (by decide) (by omega) v193 y192 l0 _ _ _ (fun _ => True) (fun _ => False) rfl rfl ?aO ?aR (fun _ _ h => h) (fun _ h => h.elim) ?aF ?aB ?aS ?aL ?_; (case aR => repeat (first | exact (Kd.C_below HR0.out HB.out) | (with_reducible refine Kd.C_alloc ?_ _) | (with_reducible refine Kd.C_drewN ?_ _) | (with_reducible refine Kd.C_drew ?_))); (case aB => exact (by repeat (first | (with_reducible first | exact HB.out | apply below_alloc | apply pw_below_drewN | apply below_drew1) | exact HB.out))); (case aF => exact (fun _ _ => trivial)); (case aO => exact (by (with_reducible repeat (first | apply Kd.R_alloc | apply Kd.R_drewN | apply Kd.R_drew)); exact HO194.out)); (case aS => exact (below_size (by repeat (first | (with_reducible first | exact HB.out | apply below_alloc | apply pw_below_drewN | apply below_drew1) | exact HB.out)))); (case aL => have := LMc2.out; omega); intro v196 w5 ho hb hg hat; rw [← Ny195.out] at ho; have n0_ := Aside0.mk (hb); have n1_ := Aside0.mk (ho); clear HB; clear HO194; have HB := n0_; have HO197 := n1_; clear n0_ n1_; clear ho hb hg hat))
    go_loopg [4, 5] k (fun kq v4 v5 w' => ∃ (x4_1 : List Int) (x5_1 : Int), v5 = .int .i64 x5_1 ∧ Aside0 (lombardref01_Sum.l0 kq x4_1 x5_1 = some (r1, r2)) ∧ Aside0 (kq ≤ k) ∧ Aside0 (Kd.R (Kd.int .i64) 2 w' w.heap.size (fun _ => True) v4 x4_1) ∧ Aside0 (Below w.heap.size w w'))
    case atStart => exact ⟨(y195), (0), (by first | rfl | (simp; done) | (simp [*]; done)), H', ⟨Nat.le_refl _⟩, ⟨by (with_reducible repeat (first | apply Kd.R_alloc | apply Kd.R_drewN | apply Kd.R_drew)); exact HO197.out⟩, ⟨by repeat (first | (with_reducible first | exact HB.out | apply below_alloc | apply pw_below_drewN | apply below_drew1) | exact HB.out)⟩⟩
    case round =>
      clear H'
      try clear c2
      try clear p2
      obtain ⟨x4_1, x5_1, rfl, HA, HK1, HO_4, HB⟩ := hrel
      cases gk with
      | zero => exact absurd HA.out (by simp [lombardref01_Sum.l0])
      | succ k1 =>
        have H := HA.out
        clear HA
        simp only [lombardref01_Sum.l0] at H
        by_cases c6 : (x4_1.length : Int) > 0
        · rw [if_pos c6] at H
          have c6b0 : decide (0 < (x4_1.length : Int)) = true := decide_eq_true c6
          have c6b1 : decide (0 < x4_1.length) = true := decide_eq_true (by omega)
          clear c6
          have H' := Aside0.mk H
          clear H
          obtain ⟨Ao7, co7, eo7⟩ := Kd.R_slice HO_4.out
          subst eo7
          go_wp2
          go_loopg [6, 19] k1 (fun kq v6 v19 w' => ∃ (x6_2 : Int) (x19_2 : Int), v6 = .int .i64 x6_2 ∧ v19 = .int .i64 x19_2 ∧ Aside0 (lombardref01_Sum.l1 kq x4_1 x5_1 x6_2 x4_1 (x4_1.length : Int) x19_2 = some (r1, r2)) ∧ Aside0 (kq ≤ k1) ∧ Aside0 (Kd.R (Kd.int .i64) 2 w' w.heap.size (fun _ => True) (.slice Ao7 x4_1.length co7) x4_1) ∧ Aside0 (Kd.R (Kd.int .i64) 2 w' w.heap.size (fun _ => True) (.slice Ao7 x4_1.length co7) x4_1) ∧ Aside0 (Below w.heap.size w w'))
          case atStart => exact ⟨(0), (0), (by first | rfl | (simp; done) | (simp [*]; done)), (by first | rfl | (simp; done) | (simp [*]; done)), H', ⟨Nat.le_refl _⟩, ⟨by (with_reducible repeat (first | apply Kd.R_alloc | apply Kd.R_drewN | apply Kd.R_drew)); exact HO_4.out⟩, ⟨by (with_reducible repeat (first | apply Kd.R_alloc | apply Kd.R_drewN | apply Kd.R_drew)); exact HO_4.out⟩, ⟨by repeat (first | (with_reducible first | exact HB.out | apply below_alloc | apply pw_below_drewN | apply below_drew1) | exact HB.out)⟩⟩
          case round =>
            clear H'
            try clear c2
            try clear p2
            try clear c6
            try clear c6b0
            try clear c6b1
            try clear p2
            obtain ⟨x6_2, x19_2, rfl, rfl, HA, HK2, HO_4, HO_17, HB⟩ := hrel
            cases gk with
            | zero => exact absurd HA.out (by simp [lombardref01_Sum.l1])
            | succ k2 =>
              have H := HA.out
              clear HA
              simp only [lombardref01_Sum.l1] at H
              by_cases c8 : x19_2 < (x4_1.length : Int)
              · rw [if_pos c8] at H
                have c8b0 : decide (x19_2 < (x4_1.length : Int)) = true := decide_eq_true c8
                clear c8
                by_cases c9 : 0 ≤ x19_2
                · rw [if_pos c9] at H
                  have c9b0 : decide (0 ≤ x19_2) = true := decide_eq_true c9
                  clear c9
                  by_cases c10 : x19_2 < (x4_1.length : Int)
                  · rw [if_pos c10] at H
                    have c10b0 : decide (x19_2 < (x4_1.length : Int)) = true := decide_eq_true c10
                    clear c10
                    by_cases c11 : (!((decide ((rd x4_1 x19_2) < 0)) == (decide (x5_1 < 0)))) = true
                    · rw [if_pos c11] at H
                      have c11b0 : (!((decide ((rd x4_1 x19_2) < 0)) == (decide (x5_1 < 0)))) = true := c11
                      clear c11
                      have H' := Aside0.mk H
                      clear H
                      have p198 : 0 ≤ (x19_2 : Int) := of_decide_eq_true (by first | (with_reducible assumption) | assumption)
                      have q198 : x19_2 < (x4_1.length : Int) := of_decide_eq_true (by first | (with_reducible assumption) | assumption)
                      obtain ⟨ad198, e198, hx198_0⟩ := Kd.at_int (Kd.R_reads' HO_17.out).2.2 x19_2 p198 q198
                      cases e198
                      replace p198 := eq_true p198
                      replace q198 := eq_true q198
                      go_wp2
                      go_roundg k2
                      case measure => have := HK1.out; have := HK2.out; omega
                      case rel => exact ⟨(x19_2), (wrap64 (x19_2 + 1)), (by first | rfl | (simp; done) | (simp [*]; done)), (by first | rfl | (simp; done) | (simp [*]; done)), H', ⟨by have := HK1.out; have := HK2.out; omega⟩, ⟨by (with_reducible repeat (first | apply Kd.R_alloc | apply Kd.R_drewN | apply Kd.R_drew)); exact HO_4.out⟩, ⟨by (with_reducible repeat (first | apply Kd.R_alloc | apply Kd.R_drewN | apply Kd.R_drew)); exact HO_17.out⟩, ⟨by repeat (first | (with_reducible first | exact HB.out | apply below_alloc | apply pw_below_drewN | apply below_drew1) | exact HB.out)⟩⟩
                    · rw [if_neg c11] at H
                      have c11b0 : (!((decide ((rd x4_1 x19_2) < 0)) == (decide (x5_1 < 0)))) = false := by simpa using c11
                      clear c11
                      have H' := Aside0.mk H
                      clear H
                      have p198 : 0 ≤ (x19_2 : Int) := of_decide_eq_true (by first | (with_reducible assumption) | assumption)
                      have q198 : x19_2 < (x4_1.length : Int) := of_decide_eq_true (by first | (with_reducible assumption) | assumption)
                      obtain ⟨ad198, e198, hx198_0⟩ := Kd.at_int (Kd.R_reads' HO_17.out).2.2 x19_2 p198 q198
                      cases e198
                      replace p198 := eq_true p198
                      replace q198 := eq_true q198
                      go_wp2
                      go_roundg k2
                      case measure => have := HK1.out; have := HK2.out; omega
                      case rel => exact ⟨(x6_2), (wrap64 (x19_2 + 1)), (by first | rfl | (simp; done) | (simp [*]; done)), (by first | rfl | (simp; done) | (simp [*]; done)), H', ⟨by have := HK1.out; have := HK2.out; omega⟩, ⟨by (with_reducible repeat (first | apply Kd.R_alloc | apply Kd.R_drewN | apply Kd.R_drew)); exact HO_4.out⟩, ⟨by (with_reducible repeat (first | apply Kd.R_alloc | apply Kd.R_drewN | apply Kd.R_drew)); exact HO_17.out⟩, ⟨by repeat (first | (with_reducible first | exact HB.out | apply below_alloc | apply pw_below_drewN | apply below_drew1) | exact HB.out)⟩⟩
                  · rw [if_neg c10] at H
                    exact absurd H (by simp)
                · rw [if_neg c9] at H
                  exact absurd H (by simp)
              · rw [if_neg c8] at H
                have c8b0 : decide (x19_2 < (x4_1.length : Int)) = false := decide_eq_false c8
                clear c8
                by_cases c12 : 0 ≤ x6_2
                · rw [if_pos c12] at H
                  have c12b0 : decide (0 ≤ x6_2) = true := decide_eq_true c12
                  clear c12
                  by_cases c13 : x6_2 < (x4_1.length : Int)
                  · rw [if_pos c13] at H
                    have c13b0 : decide (x6_2 < (x4_1.length : Int)) = true := decide_eq_true c13
                    clear c13
                    replace H := Option.bind_eq_some_iff.mp H
                    obtain ⟨⟨t200, t201⟩, A140, H⟩ := H
                    replace H : (if t201 = 0 then (if x6_2 ≤ (x4_1.length : Int) then (if 0 ≤ (wrap64 (x6_2 + 1)) then (if (wrap64 (x6_2 + 1)) ≤ (x4_1.length : Int) then (lombardref01_Sum.l0 k2 (x4_1.eraseIdx (x6_2 : Int).toNat) t200) else (none)) else (none)) else (none)) else (some (0, t201))) = some (r1, r2) := H
                    have A14 := Aside0.mk A140
                    clear A140
                    by_cases c15 : t201 = 0
                    · rw [if_pos c15] at H
                      have c15b0 : (t201 == 0) = true := beq_iff_eq.mpr c15
                      have c15b1 : (t201 != 0) = false := bne_eq_false_iff_eq.mpr c15
                      clear c15
                      have c16b0 := eq_true (of_decide_eq_true (by first | (with_reducible assumption) | assumption) : 0 ≤ x6_2)
                      by_cases c17 : x6_2 ≤ (x4_1.length : Int)
                      · rw [if_pos c17] at H
                        have c17b0 := eq_true c17
                        have c17b1 : decide (x6_2 ≤ (x4_1.length : Int)) = true := decide_eq_true c17
                        clear c17
                        obtain ⟨y202, hy202⟩ : ∃ y_ : List Int, y_ = (x4_1.take (x6_2 : Int).toNat) := ⟨_, rfl⟩
                        replace H : (if 0 ≤ (wrap64 (x6_2 + 1)) then (if (wrap64 (x6_2 + 1)) ≤ (x4_1.length : Int) then (lombardref01_Sum.l0 k2 (x4_1.eraseIdx (x6_2 : Int).toNat) t200) else (none)) else (none)) = some (r1, r2) := by first | (rw [hy202]; with_reducible exact H) | (have H2_ := (Option.bind_some _ _).symm.trans H; rw [hy202]; with_reducible exact H2_) | (have H2_ := (Option.bind_some _ _).symm.trans H; with_reducible exact H2_) | with_reducible exact H | (rw [hy202]; exact H) | exact H
                        have Ny202 := Aside0.mk hy202
                        clear hy202
                        obtain ⟨ji18, hji18⟩ : ∃ j_ : Int, (wrap64 (x6_2 + 1)) = j_ := ⟨_, rfl⟩
                        replace H : (if 0 ≤ (ji18) then (if (ji18) ≤ (x4_1.length : Int) then (lombardref01_Sum.l0 k2 (x4_1.eraseIdx (x6_2 : Int).toNat) t200) else (none)) else (none)) = some (r1, r2) := by first | (rw [hji18] at H; exact H) | (simp only [hji18] at H ⊢; exact H)
                        (try rw [hji18] at A14)
                        have hji18w : (IntKind.i64.wrap (x6_2 + 1)) = ji18 := (i64_w _).trans hji18
                        by_cases c19 : 0 ≤ (ji18)
                        · rw [if_pos c19] at H
                          have c19b0 := eq_true c19
                          have c19b1 : decide (0 ≤ (ji18)) = true := decide_eq_true c19
                          clear c19
                          by_cases c20 : (ji18) ≤ (x4_1.length : Int)
                          · rw [if_pos c20] at H
                            have c20b0 := eq_true c20
                            have c20b1 : decide ((ji18) ≤ (x4_1.length : Int)) = true := decide_eq_true c20
                            clear c20
                            obtain ⟨y206, hy206⟩ : ∃ y_ : List Int, y_ = (x4_1.drop ((ji18) : Int).toNat) := ⟨_, rfl⟩
                            replace H : (lombardref01_Sum.l0 k2 (x4_1.eraseIdx (x6_2 : Int).toNat) t200) = some (r1, r2) := by first | (rw [hy206]; with_reducible exact H) | (have H2_ := (Option.bind_some _ _).symm.trans H; rw [hy206]; with_reducible exact H2_) | (have H2_ := (Option.bind_some _ _).symm.trans H; with_reducible exact H2_) | with_reducible exact H | (rw [hy206]; exact H) | exact H
                            have Ny206 := Aside0.mk hy206
                            clear hy206
                            obtain ⟨y210, hy210⟩ : ∃ y_ : List Int, y_ = (x4_1.eraseIdx (x6_2 : Int).toNat) := ⟨_, rfl⟩
                            replace H : (lombardref01_Sum.l0 k2 y210 t200) = some (r1, r2) := by first | (rw [hy210]; with_reducible exact H) | (have H2_ := (Option.bind_some _ _).symm.trans H; rw [hy210]; with_reducible exact H2_) | (have H2_ := (Option.bind_some _ _).symm.trans H; with_reducible exact H2_) | with_reducible exact H | (rw [hy210]; exact H) | exact H
                            have Ny210 := Aside0.mk hy210
                            clear hy210
                            have H' := Aside0.mk H
                            clear H
                            have p199 : 0 ≤ (x6_2 : Int) := of_decide_eq_true (by first | (with_reducible assumption) | assumption)
                            have q199 : x6_2 < (x4_1.length : Int) := of_decide_eq_true (by first | (with_reducible assumption) | assumption)
                            obtain ⟨ad199, e199, hx199_0⟩ := Kd.at_int (Kd.R_reads' HO_4.out).2.2 x6_2 p199 q199
                            cases e199
                            replace p199 := eq_true p199
                            replace q199 := eq_true q199
                            try go_wp2_with (first | ((with_reducible refine gate_callee (f := 30) rfl ?_); refine goesL_ (some 37) rfl rfl Try.func30 (by kernel_rfl) rfl #[.int .i64 x5_1, .int .i64 (rd x4_1 x6_2)] rfl (by (try simp only [List.map_toArray, List.map_cons, List.map_nil]); first | done | rfl | (simp only [List.length_drop, List.length_take]; rfl)) ?_; (with_reducible refine (lombardref01_Add.calls x5_1 (rd x4_1 x6_2) t200 t201 _ A14.out).mono ?_); rintro e w' ⟨rfl, ⟨nd, rfl⟩⟩; refine ⟨_, rfl, ?_⟩))
                            (try (rw [drewN_self wr]; generalize hq_ : World.drewN wr _ = wr; have n0_ : Aside0 (Kd.R (Kd.int .i64) 2 wr w.heap.size (fun _ => True) (.slice (some ad199) x4_1.length co7) x4_1) := ⟨by rw [← hq_]; exact (by (with_reducible repeat (first | apply Kd.R_alloc | apply Kd.R_drewN | apply Kd.R_drew)); exact HO_17.out)⟩; have n1_ : Aside0 (Kd.R (Kd.int .i64) 2 wr w.heap.size (fun _ => True) (.slice (some ad199) x4_1.length co7) x4_1) := ⟨by rw [← hq_]; exact (by (with_reducible repeat (first | apply Kd.R_alloc | apply Kd.R_drewN | apply Kd.R_drew)); exact HO_4.out)⟩; have n2_ : Aside0 (Below w.heap.size w wr) := ⟨by rw [← hq_]; exact (by repeat (first | (with_reducible first | exact HB.out | apply below_alloc | apply pw_below_drewN | apply below_drew1) | exact HB.out))⟩; clear HO_17 HO_4 HB hq_; have HO_17 := n0_; have HO_4 := n1_; have HB := n2_; clear n0_ n1_ n2_))
                            have n0_ := Aside0.mk (Kd.R_drew HO_4.out)
                            have n1_ := Aside0.mk (Kd.R_drew HO_17.out)
                            have n2_ := Aside0.mk (below_drew1 HB.out)
                            clear HO_4
                            clear HO_17
                            clear HB
                            have HO_4 := n0_
                            have HO_17 := n1_
                            have HB := n2_
                            clear n0_ n1_ n2_
                            have q22 : (x6_2 : Int) ≤ ((x4_1.length : Int) : Int) := of_decide_eq_true (by first | (with_reducible assumption) | assumption)
                            obtain ⟨i022, hi022, _, hsz22, _⟩ := info_parts info2
                            have hroom22 : x4_1.length ≤ co7 := (Kd.R_reads' HO_4.out).2.1
                            have hC22 : Kd.C (Kd.int .i64) _ (some ad199) x4_1.length x4_1 := (Kd.R_reads' HO_4.out).2.2
                            have hcut22 := cut_to (P := Try.prog) 36 2 .i64 Try.underlying36 hi022 (some ad199) x4_1.length co7 x6_2 (of_decide_eq_true (by first | (with_reducible assumption) | assumption)) q22 hroom22
                            have hr22 := Kd.C_take (m := (x6_2 : Int).toNat) hC22 (by omega)
                            have hy22 : y202.length = (x6_2 : Int).toNat := (by rw [Ny202.out, List.length_take]; omega)
                            rw [← Ny202.out] at hr22
                            rw [← hy22] at hcut22
                            have HR205 := Aside0.mk hr22
                            have HC205 := Aside0.mk (show y202.length ≤ co7 from by omega)
                            clear hr22 hC22 hroom22 hi022 hsz22
                            have KY22 := Aside0.mk hy22
                            clear hy22
                            have KL22 := Aside0.mk (show (x6_2 : Int).toNat ≤ x4_1.length from by omega)
                            replace q22 := eq_true q22
                            have q23 : ((ji18) : Int) ≤ ((x4_1.length : Int) : Int) := of_decide_eq_true (by first | (with_reducible assumption) | assumption)
                            obtain ⟨i023, hi023, _, hsz23, _⟩ := info_parts info2
                            have hroom23 : x4_1.length ≤ co7 := (Kd.R_reads' HO_4.out).2.1
                            have hC23 : Kd.C (Kd.int .i64) _ (some ad199) x4_1.length x4_1 := (Kd.R_reads' HO_4.out).2.2
                            have q023 : (0 : Int) ≤ ((ji18) : Int) := of_decide_eq_true (by first | (with_reducible assumption) | assumption)
                            have hcut23 := cut_from (P := Try.prog) 36 2 .i64 Try.underlying36 hi023 1 hsz23 (some ad199) x4_1.length co7 (ji18) q023 q23
                            have hr23 := Kd.C_drop (m := ((ji18) : Int).toNat) (c := co7) hC23 (by omega) hroom23
                            obtain ⟨A23, hA23⟩ : ∃ A1, A1 = (if co7 = ((ji18) : Int).toNat then (some ad199) else ((some ad199) : Option Addr).map (·.add (((ji18) : Int).toNat * 1))) := ⟨_, rfl⟩
                            obtain ⟨c23, hc23⟩ : ∃ c1, c1 = co7 - ((ji18) : Int).toNat := ⟨_, rfl⟩
                            have hy23 : y206.length = x4_1.length - ((ji18) : Int).toNat := (by rw [Ny206.out, List.length_drop] <;> omega)
                            rw [show (x4_1).drop ((ji18) : Int).toNat = y206 from Ny206.out.symm] at hr23
                            replace hr23 : Kd.C (Kd.int .i64) _ A23 y206.length y206 := (by rw [hA23]; exact hr23)
                            rw [← hy23, ← hA23, ← hc23] at hcut23
                            have HR209 := Aside0.mk hr23
                            have HC209 := Aside0.mk (show y206.length ≤ c23 from by rw [hy23, hc23]; exact Nat.sub_le_sub_right hroom23 _)
                            clear hr23 hC23 hroom23 hi023 hsz23 hc23
                            have KY23 := Aside0.mk hy23
                            have KA23 := Aside0.mk hA23
                            clear hy23 hA23
                            have KL23 := Aside0.mk (show ((ji18) : Int).toNat ≤ x4_1.length from by omega)
                            replace q23 := eq_true q23
                            obtain ⟨go25, co25, eo25, gb25, gl25, cl25, HG25⟩ := Kd.R_form HO_4.out (by have hj_ : 0 ≤ (x6_2 : Int) := of_decide_eq_true (by first | (with_reducible assumption) | assumption); have hl_ : (ji18 : Int) ≤ (x4_1.length : Int) := of_decide_eq_true (by first | (with_reducible assumption) | assumption); have hh_ : (x6_2 : Int) ≤ (x4_1.length : Int) := of_decide_eq_true (by first | (with_reducible assumption) | assumption); rw [← hji18] at hl_; unfold wrap64 at hl_; omega)
                            (first | cases eo25 | (injection eo25 with ea_ en_ ec_; (first | subst ea_ | (injection ea_ with ea_; subst ea_)); subst ec_; clear en_))
                            have GB25 := Aside0.mk gb25
                            have GG25 := Aside0.mk HG25
                            clear gb25 gl25 HG25
                            (first | simp only [add_plain] at hx199_0 | skip)
                            refine start_ (n := 9) (S := fun w' => True) (ds := []) #[false, false, false, false, false, false, false, false, false] (by kernel_rfl) rfl rfl trivial (fun hHeld => ?_); refine with_tabW lombardref01_Sum.tab15 lombardref01_Sum.bits15 (fun HT_ HW_ => ?_)
                            generalize wr.drew = w21 at HO_4 HO_17 HB GG25 HR205 HR209 hx199_0 hHeld ⊢
                            refine pure_ (i := 0) (N := some 44) (v := ?_) (a' := ?_) #[true, false, false, false, false, false, false, false, false] rfl rfl (any_of HT_.out (by kernel_rfl)) (fun _ _ _ h => h) (Or.inl ⟨by rfl, ?_⟩) ?_ ?_
                            rotate_left
                            · intro w'
                              go_simp
                              with_reducible rfl
                            rotate_left
                            · simp only [Act.put, List.setIfInBounds_toArray, List.set_cons_zero, List.set_cons_succ, i64_w, i32_w]
                              rfl
                            refine pure_ (i := 1) (N := some 45) (v := ?_) (a' := ?_) #[true, true, false, false, false, false, false, false, false] rfl rfl (any_of HT_.out (by kernel_rfl)) (fun _ _ _ h => h) (Or.inl ⟨by rfl, ?_⟩) ?_ ?_
                            rotate_left
                            · intro w'
                              go_simp
                              with_reducible rfl
                            rotate_left
                            · simp only [Act.put, List.setIfInBounds_toArray, List.set_cons_zero, List.set_cons_succ, i64_w, i32_w]
                              rfl
                            refine pure_ (i := 2) (N := some 46) (v := ?_) (a' := ?_) #[true, true, true, false, false, false, false, false, false] rfl rfl (any_of HT_.out (by kernel_rfl)) (fun _ _ _ h => h) (Or.inl ⟨by rfl, ?_⟩) ?_ ?_
                            rotate_left
                            · intro w'
                              go_simp
                              with_reducible rfl
                            rotate_left
                            · simp only [Act.put, List.setIfInBounds_toArray, List.set_cons_zero, List.set_cons_succ, i64_w, i32_w]
                              rfl
                            refine pure_ (i := 3) (N := some 47) (v := ?_) (a' := ?_) #[true, true, true, true, false, false, false, false, false] rfl rfl (any_of HT_.out (by kernel_rfl)) (fun _ _ _ h => h) (Or.inl ⟨by rfl, ?_⟩) ?_ ?_
                            rotate_left
                            · intro w'
                              go_simp
                              with_reducible rfl
                            rotate_left
                            · simp only [Act.put, List.setIfInBounds_toArray, List.set_cons_zero, List.set_cons_succ, i64_w, i32_w]
                              rfl
                            refine pure_ (i := 4) (N := some 48) (v := ?_) (a' := ?_) #[true, true, true, true, true, false, false, false, false] rfl rfl (any_of HT_.out (by kernel_rfl)) (fun _ _ _ h => h) (Or.inl ⟨by rfl, ?_⟩) ?_ ?_
                            rotate_left
                            · intro w'
                              go_simp
                              with_reducible rfl
                            rotate_left
                            · simp only [Act.put, List.setIfInBounds_toArray, List.set_cons_zero, List.set_cons_succ, i64_w, i32_w]
                              rfl
                            refine pure_ (i := 5) (N := some 49) (v := ?_) (a' := ?_) #[true, true, true, true, true, true, false, false, false] rfl rfl (any_of HT_.out (by kernel_rfl)) (fun _ _ _ h => h) (Or.inl ⟨by rfl, ?_⟩) ?_ ?_
                            rotate_left
                            · intro w'
                              go_simp
                              with_reducible rfl
                            rotate_left
                            · simp only [Act.put, List.setIfInBounds_toArray, List.set_cons_zero, List.set_cons_succ, i64_w, i32_w]
                              rfl
                            refine pure_ (i := 6) (N := some 50) (v := ?_) (a' := ?_) #[true, true, true, true, true, true, true, false, false] rfl rfl (any_of HT_.out (by kernel_rfl)) (fun _ _ _ h => h) (Or.inl ⟨by rfl, ?_⟩) ?_ ?_
                            rotate_left
                            · intro w'
                              go_simp
                              with_reducible rfl
                            rotate_left
                            · simp only [Act.put, List.setIfInBounds_toArray, List.set_cons_zero, List.set_cons_succ, i64_w, i32_w]
                              rfl
                            refine one_ (i := 7) (N := some 51) #[true, true, true, true, true, true, true, true, false] rfl rfl (one_of HT_.out (by kernel_rfl)) (by decide) (fun K hK => ?_)
                            have hj_ : 0 ≤ (x6_2 : Int) := of_decide_eq_true (by first | (with_reducible assumption) | assumption)
                            have hl_ : (ji18 : Int) ≤ (x4_1.length : Int) := of_decide_eq_true (by first | (with_reducible assumption) | assumption)
                            have hh_ : (x6_2 : Int) ≤ (x4_1.length : Int) := of_decide_eq_true (by first | (with_reducible assumption) | assumption)
                            have hb_ := (Kd.R_reads' HO_4.out).2.2.2.1
                            have h0_ : (0 : Int) ≤ (ji18 : Int) := of_decide_eq_true (by first | (with_reducible assumption) | assumption)
                            have hy1_ := KY22.out
                            have hk_ : (ji18 : Int).toNat = y202.length + 1 := (by have hw_ : (ji18 : Int) = x6_2 + 1 := (by have h00_ := h0_; rw [← hji18] at h00_ ⊢; unfold wrap64 at h00_ ⊢; omega); rw [hw_]; omega)
                            refine Kd.R_delete_step (Kd.int .i64) (w0 := w) w.heap.size (by rfl) (.tmp 46) (.tmp 50) 36 2 rfl Try.underlying36 (by kernel_rfl) (g := go25) (n := x4_1.length) (c := co7) (k := y202.length) rfl rfl ?hA ?hm (by (with_reducible repeat (first | apply Kd.R_alloc | apply Kd.R_drewN | apply Kd.R_drew)); exact HO_4.out) ?hk (by repeat (first | (with_reducible first | exact HB.out | apply below_alloc | apply pw_below_drewN | apply below_drew1) | exact HB.out)) (below_size (by repeat (first | (with_reducible first | exact HB.out | apply below_alloc | apply pw_below_drewN | apply below_drew1) | exact HB.out))) ?_
                            (case hA => have ha_ := KA23.out; rw [hk_] at ha_; exact ha_)
                            (case hm => have ha_ := KY23.out; omega)
                            (case hk => omega)
                            intro w24 ho hb hg
                            clear hj_ hl_ hh_ hb_ hk_ h0_
                            rw [hy1_, ← Ny210.out] at ho
                            clear hy1_
                            have hn_ : x4_1.length - 1 = y210.length := (by have := (Kd.R_reads' ho).1; omega)
                            rw [hn_] at ho ⊢
                            clear hn_
                            have n0_ := Aside0.mk (ho)
                            have n1_ := Aside0.mk (hb)
                            clear HO_4
                            clear HB
                            have HO_4 := n0_
                            have HB := n1_
                            clear n0_ n1_
                            clear ho hb hg
                            refine hK.out _ _ trivial (fun hHeld => ?_)
                            clear hK K
                            refine norm_ (a' := ?_) ?_ ?_
                            rotate_left
                            · show Act.put _ (some 51) _ = _
                              simp only [Act.put, List.setIfInBounds_toArray, List.set_cons_zero, List.set_cons_succ, i64_w, i32_w]
                              rfl
                            refine pure_ (i := 8) (N := some 4) (v := ?_) (a' := ?_) #[true, true, true, true, true, true, true, true, true] rfl rfl (any_of HT_.out (by kernel_rfl)) (fun _ _ _ h => h) (Or.inl ⟨by rfl, ?_⟩) ?_ ?_
                            rotate_left
                            · intro w'
                              go_simp
                              with_reducible rfl
                            rotate_left
                            · simp only [Act.put, List.setIfInBounds_toArray, List.set_cons_zero, List.set_cons_succ, i64_w, i32_w]
                              rfl
                            refine done_ (done_of HT_.out (by kernel_rfl)) ?_
                            try go_wp2
                            go_roundg k2
                            case measure => have := HK1.out; have := HK2.out; omega
                            case rel => exact ⟨(y210), (t200), (by first | rfl | (simp; done) | (simp [*]; done)), H', ⟨by have := HK1.out; have := HK2.out; omega⟩, ⟨by (with_reducible repeat (first | apply Kd.R_alloc | apply Kd.R_drewN | apply Kd.R_drew)); exact HO_4.out⟩, ⟨by repeat (first | (with_reducible first | exact HB.out | apply below_alloc | apply pw_below_drewN | apply below_drew1) | exact HB.out)⟩⟩
                          · rw [if_neg c20] at H
                            exact absurd H (by simp)
                        · rw [if_neg c19] at H
                          exact absurd H (by simp)
                      · rw [if_neg c17] at H
                        exact absurd H (by simp)
                    · rw [if_neg c15] at H
                      have c15b0 : (t201 == 0) = false := beq_eq_false_iff_ne.mpr c15
                      have c15b1 : (t201 != 0) = true := bne_iff_ne.mpr c15
                      simp only [Option.some.injEq, Prod.mk.injEq] at H
                      obtain ⟨rfl, rfl⟩ := H
                      have p199 : 0 ≤ (x6_2 : Int) := of_decide_eq_true (by first | (with_reducible assumption) | assumption)
                      have q199 : x6_2 < (x4_1.length : Int) := of_decide_eq_true (by first | (with_reducible assumption) | assumption)
                      obtain ⟨ad199, e199, hx199_0⟩ := Kd.at_int (Kd.R_reads' HO_4.out).2.2 x6_2 p199 q199
                      cases e199
                      replace p199 := eq_true p199
                      replace q199 := eq_true q199
                      go_wp2_with (first | ((with_reducible refine gate_callee (f := 30) rfl ?_); refine goesL_ (some 37) rfl rfl Try.func30 (by kernel_rfl) rfl #[.int .i64 x5_1, .int .i64 (rd x4_1 x6_2)] rfl (by (try simp only [List.map_toArray, List.map_cons, List.map_nil]); first | done | rfl | (simp only [List.length_drop, List.length_take]; rfl)) ?_; (with_reducible refine (lombardref01_Add.calls x5_1 (rd x4_1 x6_2) t200 t201 _ A14.out).mono ?_); rintro e w' ⟨rfl, ⟨nd, rfl⟩⟩; refine ⟨_, rfl, ?_⟩))
                      go_ret2
                      exact ⟨by first | rfl | (simp [errW_none, errW_some] <;> rfl) | (simp [*, errW_none, errW_some] <;> rfl), by repeat (first | (with_reducible first | exact HB.out | apply below_alloc | apply pw_below_drewN | apply below_drew1) | exact HB.out)⟩
                  · rw [if_neg c13] at H
                    exact absurd H (by simp)
                · rw [if_neg c12] at H
                  exact absurd H (by simp)
        · rw [if_neg c6] at H
          have c6b0 : decide (0 < (x4_1.length : Int)) = false := decide_eq_false c6
          have c6b1 : decide (0 < x4_1.length) = false := decide_eq_false (by omega)
          clear c6
          simp only [Option.some.injEq, Prod.mk.injEq] at H
          obtain ⟨rfl, rfl⟩ := H
          obtain ⟨Ao26, co26, eo26⟩ := Kd.R_slice HO_4.out
          subst eo26
          go_wp2
          go_ret2
          exact ⟨by first | rfl | (simp [errW_none, errW_some] <;> rfl) | (simp [*, errW_none, errW_some] <;> rfl), by repeat (first | (with_reducible first | exact HB.out | apply below_alloc | apply pw_below_drewN | apply below_drew1) | exact HB.out)⟩
  · rw [if_neg c2] at H
    exact absurd H (by simp)

end Go.Proofs.Ytohbdjfabghagaa.S
