/- The statement MoneySplitsSaid: for every input the law returns true, and each argument reads afterwards as it read before. Conditions: none. -/
import Derived.Test.YtohbdjfabghagaaSx0
import Derived.Test.YtohbdjfabghagaaSxLombardref01Same
import Derived.Test.YtohbdjfabghagaaSxMoneySplit
import Derived.Test.YtohbdjfabghagaaSxLombardlaw01Alive
import Derived.Test.YtohbdjfabghagaaSxLombardref01Split
import Derived.Test.YtohbdjfabghagaaSxMoneyTold
import Derived.Test.YtohbdjfabghagaaSxLombardref01Sub
import Derived.Test.YtohbdjfabghagaaXWide
import Derived.Test.YtohbdjfabghagaaSxMoneyAdd
import Derived.Test.YtohbdjfabghagaaSxMoneyMul
import Derived.Test.YtohbdjfabghagaaSxLombardref01May
import Derived.Test.YtohbdjfabghagaaSxMoneyMay
import Derived.Test.YtohbdjfabghagaaSxMoneySum
import Derived.SizedLaws
import Derived.ChangeSlices
import Derived.Test.YtohbdjfabghagaaRows
import Derived.WalkKit
import Derived.ProofKit
import Derived.OpenShut
import Derived.ShutString
import Derived.ChangeOld
import Derived.Below
section
namespace Go.Proofs.Ytohbdjfabghagaa.S
open Go.RowKit Go.Proofs.YtohbdjfabghagaaW.PrintWords Go.Proofs.YtohbdjfabghagaaW.PrintLast Go.Proofs.YtohbdjfabghagaaW.PrintMore
attribute [local go_sem] max2_int min2_int max_two min_two max_three min_three max_four min_four   -- for this text's walks alone
attribute [local go_sem] Go.Proofs.Ytohbdjfabghagaa.XWalk.cell2
set_option linter.unusedVariables false
set_option linter.unusedSimpArgs false

/-! ### lombardlaw01_MoneySplits: function 6 -/
def lombardlaw01_MoneySplits.f (k : Nat) (a0 : Int) (l1 : List Int) : Option (Bool) := (lombardlaw01_alive.f k).bind fun t252 => (if t252 = true then (if (l1.length : Int) > 1000 then (some true) else ((money_Split.f k a0 l1).bind fun bt253 => ((lombardref01_Split.f k a0 l1).bind fun bt257 => ((lombardref01_Same.f k bt253.1 bt257.1).bind fun t261 => (if t261 = true then (some (bt253.2 == bt257.2)) else (some false)))))) else (some false))
theorem lombardlaw01_MoneySplits.mono : ∀ a0 a1 k, LeO (lombardlaw01_MoneySplits.f k a0 a1) (lombardlaw01_MoneySplits.f (k + 1) a0 a1) := by
  intro a0 a1 k
  unfold lombardlaw01_MoneySplits.f
  repeat' first
      | (with_reducible exact lombardlaw01_alive.mono _)
      | (with_reducible exact lombardref01_Same.mono _ _ _)
      | (with_reducible exact lombardref01_Split.mono _ _ _)
      | (with_reducible exact money_Split.mono _ _ _)
      | (with_reducible exact LeO.refl _)
      | (with_reducible exact LeO.none _)
      | (with_reducible refine LeO.ite ?_ ?_)
      | (with_reducible refine LeO.bind ?_ (fun _ => ?_))
      | exact lombardlaw01_alive.mono _
      | exact lombardref01_Same.mono _ _ _
      | exact lombardref01_Split.mono _ _ _
      | exact money_Split.mono _ _ _
      | exact LeO.none _
      | refine LeO.ite ?_ ?_
      | refine LeO.bind ?_ (fun _ => ?_)
set_option maxHeartbeats 8000000 in
set_option maxRecDepth 100000 in
theorem lombardlaw01_MoneySplits.calls (k : Nat) (a0 : Int) (A1 : Option Addr) (c1 : Nat) (l1 : List Int) (r : Bool) (w : World) (hr1 : Kd.C (Kd.int .i64) w A1 l1.length l1) (hc1 : l1.length ≤ c1) (h : lombardlaw01_MoneySplits.f k a0 l1 = some r) :
    Calls Try.prog 6 #[.int .i64 a0, .slice A1 l1.length c1] w fun e w' => e = .returned (.bool r) ∧ Below w.heap.size w w' := by
  have HR1 := Aside0.mk hr1
  have HC1 := Aside0.mk hc1
  clear hr1 hc1
  have HB := Aside0.mk (Below.refl w.heap.size w)
  have H : ((lombardlaw01_alive.f k).bind fun t252 => (if t252 = true then (if (l1.length : Int) > 1000 then (some true) else ((money_Split.f k a0 l1).bind fun bt253 => ((lombardref01_Split.f k a0 l1).bind fun bt257 => ((lombardref01_Same.f k bt253.1 bt257.1).bind fun t261 => (if t261 = true then (some (bt253.2 == bt257.2)) else (some false)))))) else (some false))) = some r := h
  clear h
  replace H := Option.bind_eq_some_iff.mp H
  obtain ⟨t252, A30, H⟩ := H
  replace H : (if t252 = true then (if (l1.length : Int) > 1000 then (some true) else ((money_Split.f k a0 l1).bind fun bt253 => ((lombardref01_Split.f k a0 l1).bind fun bt257 => ((lombardref01_Same.f k bt253.1 bt257.1).bind fun t261 => (if t261 = true then (some (bt253.2 == bt257.2)) else (some false)))))) else (some false)) = some r := H
  have A3 := Aside0.mk A30
  clear A30
  by_cases c4 : t252 = true
  · subst c4
    have H1 : (if (l1.length : Int) > 1000 then (some true) else ((money_Split.f k a0 l1).bind fun bt253 => ((lombardref01_Split.f k a0 l1).bind fun bt257 => ((lombardref01_Same.f k bt253.1 bt257.1).bind fun t261 => (if t261 = true then (some (bt253.2 == bt257.2)) else (some false)))))) = some r := by rw [if_pos rfl] at H; exact H
    clear H
    have H := H1
    clear H1
    by_cases c5 : (l1.length : Int) > 1000
    · rw [if_pos c5] at H
      have c5b0 : decide (1000 < (l1.length : Int)) = true := decide_eq_true c5
      have c5b1 : decide (1000 < l1.length) = true := decide_eq_true (by omega)
      clear c5
      obtain rfl := Option.some.inj H
      go_enter Try.func6, Try.ntmps6
      go_wp2_with (first | ((with_reducible refine gate_callee (f := 20) rfl ?_); refine goesL_ (some 9) rfl rfl Try.func20 (by kernel_rfl) rfl #[] rfl (by (try simp only [List.map_toArray, List.map_cons, List.map_nil]); first | done | rfl | (simp only [List.length_drop, List.length_take]; rfl)) ?_; (with_reducible refine (lombardlaw01_alive.calls k  true _ A3.out).mono ?_); rintro e w6 ⟨rfl, hb⟩; refine ⟨_, rfl, ?_⟩; have n0_ := Aside0.mk (below_step (by repeat (first | (with_reducible first | exact HB.out | apply below_alloc | apply pw_below_drewN | apply below_drew1) | exact HB.out)) hb); clear HB; have HB := n0_; clear n0_; (try clear hb); (try clear hb2); (try clear hk); (try clear hi)))
      go_ret
      exact ⟨by first | rfl | (simp [errW_none, errW_some] <;> rfl) | (simp [*, errW_none, errW_some] <;> rfl), by repeat (first | (with_reducible first | exact HB.out | apply below_alloc | apply pw_below_drewN | apply below_drew1) | exact HB.out)⟩
    · rw [if_neg c5] at H
      have c5b0 : decide (1000 < (l1.length : Int)) = false := decide_eq_false c5
      have c5b1 : decide (1000 < l1.length) = false := decide_eq_false (by omega)
      clear c5
      replace H := Option.bind_eq_some_iff.mp H
      obtain ⟨⟨t253, t254⟩, A70, H⟩ := H
      replace H : ((lombardref01_Split.f k a0 l1).bind fun bt257 => ((lombardref01_Same.f k t253 bt257.1).bind fun t261 => (if t261 = true then (some (t254 == bt257.2)) else (some false)))) = some r := H
      have A7 := Aside0.mk A70
      clear A70
      replace H := Option.bind_eq_some_iff.mp H
      obtain ⟨⟨t257, t258⟩, A80, H⟩ := H
      replace H : ((lombardref01_Same.f k t253 t257).bind fun t261 => (if t261 = true then (some (t254 == t258)) else (some false))) = some r := H
      have A8 := Aside0.mk A80
      clear A80
      have HC9 := Aside0.mk H
      clear H
      go_enter Try.func6, Try.ntmps6
      go_upto_region 7 with (first | ((with_reducible refine gate_callee (f := 20) rfl ?_); refine goesL_ (some 9) rfl rfl Try.func20 (by kernel_rfl) rfl #[] rfl (by (try simp only [List.map_toArray, List.map_cons, List.map_nil]); first | done | rfl | (simp only [List.length_drop, List.length_take]; rfl)) ?_; (with_reducible refine (lombardlaw01_alive.calls k  true _ A3.out).mono ?_); rintro e w10 ⟨rfl, hb⟩; refine ⟨_, rfl, ?_⟩; have n0_ := Aside0.mk (below_step (by repeat (first | (with_reducible first | exact HB.out | apply below_alloc | apply pw_below_drewN | apply below_drew1) | exact HB.out)) hb); clear HB; have HB := n0_; clear n0_; (try clear hb); (try clear hb2); (try clear hk); (try clear hi)) | ((with_reducible refine gate_callee (f := 24) rfl ?_); refine goesL_ (some 17) rfl rfl Try.func24 (by kernel_rfl) rfl #[.int .i64 a0, .slice A1 l1.length c1] rfl (by (try simp only [List.map_toArray, List.map_cons, List.map_nil]); first | done | rfl | (simp only [List.length_drop, List.length_take]; rfl)) ?_; (with_reducible refine (money_Split.calls k a0 _ _ l1 t253 t254 _ ?side1 ?side2 A7.out).mono ?_); (case side1 => repeat (first | exact (Kd.C_below HR1.out HB.out) | (with_reducible refine Kd.C_alloc ?_ _) | (with_reducible refine Kd.C_drewN ?_ _) | (with_reducible refine Kd.C_drew ?_))); (case side2 => exact HC1.out); rintro e w11 ⟨v255, rfl, ho0, hb⟩; refine ⟨_, rfl, ?_⟩; have n0_ := Aside0.mk (Kd.R_lower ho0 (below_size (by repeat (first | (with_reducible first | exact HB.out | apply below_alloc | apply pw_below_drewN | apply below_drew1) | exact HB.out)))); have n1_ := Aside0.mk (below_step (by repeat (first | (with_reducible first | exact HB.out | apply below_alloc | apply pw_below_drewN | apply below_drew1) | exact HB.out)) hb); clear HB; have HO256 := n0_; have HB := n1_; clear n0_ n1_; (try clear hb); (try clear hb2); (try clear hk); (try clear hi); (try clear ho0)) | ((with_reducible refine gate_callee (f := 25) rfl ?_); refine goesL_ (some 23) rfl rfl Try.func25 (by kernel_rfl) rfl #[.int .i64 a0, .slice A1 l1.length c1] rfl (by (try simp only [List.map_toArray, List.map_cons, List.map_nil]); first | done | rfl | (simp only [List.length_drop, List.length_take]; rfl)) ?_; (with_reducible refine (lombardref01_Split.calls k a0 _ _ l1 t257 t258 _ ?side1 ?side2 A8.out).mono ?_); (case side1 => repeat (first | exact (Kd.C_below HR1.out HB.out) | (with_reducible refine Kd.C_alloc ?_ _) | (with_reducible refine Kd.C_drewN ?_ _) | (with_reducible refine Kd.C_drew ?_))); (case side2 => exact HC1.out); rintro e w12 ⟨v259, rfl, ho0, hb⟩; refine ⟨_, rfl, ?_⟩; have n0_ := Aside0.mk (Kd.R_elder' (by (with_reducible repeat (first | apply Kd.R_alloc | apply Kd.R_drewN | apply Kd.R_drew)); exact HO256.out) (Kd.R_base ho0) hb); have n1_ := Aside0.mk (Kd.R_lower (Kd.R_new' ho0 (Kd.R_lt (by (with_reducible repeat (first | apply Kd.R_alloc | apply Kd.R_drewN | apply Kd.R_drew)); exact HO256.out))) (below_size (by repeat (first | (with_reducible first | exact HB.out | apply below_alloc | apply pw_below_drewN | apply below_drew1) | exact HB.out)))); have n2_ := Aside0.mk (below_step (by repeat (first | (with_reducible first | exact HB.out | apply below_alloc | apply pw_below_drewN | apply below_drew1) | exact HB.out)) hb); clear HO256; clear HB; have HO256 := n0_; have HO260 := n1_; have HB := n2_; clear n0_ n1_ n2_; (try clear hb); (try clear hb2); (try clear hk); (try clear hi); (try clear ho0)))
      have H := HC9.out
      clear HC9
      replace H := Option.bind_eq_some_iff.mp H
      obtain ⟨t261, A130, H⟩ := H
      replace H : (if t261 = true then (some (t254 == t258)) else (some false)) = some r := H
      have A13 := Aside0.mk A130
      clear A130
      by_cases c14 : t261 = true
      · subst c14
        have H1 : (some (t254 == t258)) = some r := by rw [if_pos rfl] at H; exact H
        clear H
        have H := H1
        clear H1
        obtain rfl := Option.some.inj H
        obtain ⟨Ao15, co15, eo15⟩ := Kd.R_slice HO256.out
        subst eo15
        obtain ⟨Ao16, co16, eo16⟩ := Kd.R_slice HO260.out
        subst eo16
        go_wp2_with (first | ((with_reducible refine gate_callee (f := 23) rfl ?_); refine goesL_ (some 28) rfl rfl Try.func23 (by kernel_rfl) rfl #[.slice Ao15 t253.length co15, .slice Ao16 t257.length co16] rfl (by (try simp only [List.map_toArray, List.map_cons, List.map_nil]); first | done | rfl | (simp only [List.length_drop, List.length_take]; rfl)) ?_; (with_reducible refine (lombardref01_Same.calls k _ _ t253 _ _ t257 true _ ?side1 ?side2 ?side3 ?side4 A13.out).mono ?_); (case side1 => repeat (first | exact (Kd.R_reads' HO256.out).2.2 | (with_reducible refine Kd.C_alloc ?_ _) | (with_reducible refine Kd.C_drewN ?_ _) | (with_reducible refine Kd.C_drew ?_))); (case side2 => exact (Kd.R_reads' HO256.out).2.1); (case side3 => repeat (first | exact (Kd.R_reads' HO260.out).2.2 | (with_reducible refine Kd.C_alloc ?_ _) | (with_reducible refine Kd.C_drewN ?_ _) | (with_reducible refine Kd.C_drew ?_))); (case side4 => exact (Kd.R_reads' HO260.out).2.1); rintro e w' ⟨rfl, ⟨nd, rfl⟩⟩; refine ⟨_, rfl, ?_⟩))
        go_ret
        exact ⟨by first | rfl | (simp [errW_none, errW_some] <;> rfl) | (simp [*, errW_none, errW_some] <;> rfl), by repeat (first | (with_reducible first | exact HB.out | apply below_alloc | apply pw_below_drewN | apply below_drew1) | exact HB.out)⟩
      · replace c14 := Bool.eq_false_iff.mpr c14
        subst c14
        have H1 : (some false) = some r := by rw [if_neg (show ¬ (false = true) by decide)] at H; exact H
        clear H
        have H := H1
        clear H1
        obtain rfl := Option.some.inj H
        obtain ⟨Ao17, co17, eo17⟩ := Kd.R_slice HO256.out
        subst eo17
        obtain ⟨Ao18, co18, eo18⟩ := Kd.R_slice HO260.out
        subst eo18
        go_wp2_with (first | ((with_reducible refine gate_callee (f := 23) rfl ?_); refine goesL_ (some 28) rfl rfl Try.func23 (by kernel_rfl) rfl #[.slice Ao17 t253.length co17, .slice Ao18 t257.length co18] rfl (by (try simp only [List.map_toArray, List.map_cons, List.map_nil]); first | done | rfl | (simp only [List.length_drop, List.length_take]; rfl)) ?_; (with_reducible refine (lombardref01_Same.calls k _ _ t253 _ _ t257 false _ ?side1 ?side2 ?side3 ?side4 A13.out).mono ?_); (case side1 => repeat (first | exact (Kd.R_reads' HO256.out).2.2 | (with_reducible refine Kd.C_alloc ?_ _) | (with_reducible refine Kd.C_drewN ?_ _) | (with_reducible refine Kd.C_drew ?_))); (case side2 => exact (Kd.R_reads' HO256.out).2.1); (case side3 => repeat (first | exact (Kd.R_reads' HO260.out).2.2 | (with_reducible refine Kd.C_alloc ?_ _) | (with_reducible refine Kd.C_drewN ?_ _) | (with_reducible refine Kd.C_drew ?_))); (case side4 => exact (Kd.R_reads' HO260.out).2.1); rintro e w' ⟨rfl, ⟨nd, rfl⟩⟩; refine ⟨_, rfl, ?_⟩))
        go_ret
        exact ⟨by first | rfl | (simp [errW_none, errW_some] <;> rfl) | (simp [*, errW_none, errW_some] <;> rfl), by repeat (first | (with_reducible first | exact HB.out | apply below_alloc | apply pw_below_drewN | apply below_drew1) | exact HB.out)⟩
  · replace c4 := Bool.eq_false_iff.mpr c4
    subst c4
    have H1 : (some false) = some r := by rw [if_neg (show ¬ (false = true) by decide)] at H; exact H
    clear H
    have H := H1
    clear H1
    obtain rfl := Option.some.inj H
    go_enter Try.func6, Try.ntmps6
    go_wp2_with (first | ((with_reducible refine gate_callee (f := 20) rfl ?_); refine goesL_ (some 9) rfl rfl Try.func20 (by kernel_rfl) rfl #[] rfl (by (try simp only [List.map_toArray, List.map_cons, List.map_nil]); first | done | rfl | (simp only [List.length_drop, List.length_take]; rfl)) ?_; (with_reducible refine (lombardlaw01_alive.calls k  false _ A3.out).mono ?_); rintro e w19 ⟨rfl, hb⟩; refine ⟨_, rfl, ?_⟩; have n0_ := Aside0.mk (below_step (by repeat (first | (with_reducible first | exact HB.out | apply below_alloc | apply pw_below_drewN | apply below_drew1) | exact HB.out)) hb); clear HB; have HB := n0_; clear n0_; (try clear hb); (try clear hb2); (try clear hk); (try clear hi)))
    go_ret
    exact ⟨by first | rfl | (simp [errW_none, errW_some] <;> rfl) | (simp [*, errW_none, errW_some] <;> rfl), by repeat (first | (with_reducible first | exact HB.out | apply below_alloc | apply pw_below_drewN | apply below_drew1) | exact HB.out)⟩

/-- THE ONE PURE STATEMENT of lombardlaw01_MoneySplits: yours. -/
def lombardlaw01_MoneySplits.Pure : Prop := ∀ (a0 : Int) (l1 : List Int), (Lit.int .i64 a0).wf = true → l1.length ≤ maxLen → l1.length * 8 ≤ 140737488351232 → (∀ x ∈ l1, (Lit.int .i64 x).wf = true) → ∃ k, lombardlaw01_MoneySplits.f k a0 l1 = some true
theorem lombardlaw01_MoneySplits.walk (P : lombardlaw01_MoneySplits.Pure) (a0 : Int) (a1 : Option Addr) (len1 cap1 : Nat) (z1 : List Int) (w : World) (w0 : (Lit.int .i64 a0).wf = true) (w1 : (a1 = none ∧ len1 = 0 ∧ cap1 = 0 ∧ z1 = []) ∨ ∃ x, a1 = some x ∧ len1 ≤ cap1 ∧ cap1 ≤ maxLen ∧ z1.length = cap1 ∧ (∀ i, i < z1.length → w.cell? (x.add i) = some (.int .i64 (z1.getD i 0))) ∧ ∀ n ∈ z1, (Lit.int .i64 n).wf = true) (y1 : len1 * 8 ≤ 140737488351232) :
    Calls Try.prog 6 #[.int .i64 a0, .slice a1 len1 cap1] w fun e w' => e = .returned (.bool true) ∧ Below w.heap.size w w' := by
  obtain ⟨l1, rfl, hr1, hm1, hw1, hc1⟩ := ReadsInt.ofRowC w1
  obtain ⟨k, h⟩ := P a0 l1 w0 hm1 y1 hw1
  refine (lombardlaw01_MoneySplits.calls k a0 _ _ l1 true w (Kd.C_of_reads (d := (0 : Int)) (h1 := fun _ => rfl) hr1) hc1 h).mono ?_
  rintro e w' ⟨rfl, hd⟩
  exact ⟨rfl, hd⟩

end Go.Proofs.Ytohbdjfabghagaa.S
end

section
namespace Go.Proofs.Ytohbdjfabghagaa.S
open Go.RowKit Go.Proofs.YtohbdjfabghagaaW.PrintWords Go.Proofs.YtohbdjfabghagaaW.PrintLast Go.Proofs.YtohbdjfabghagaaW.PrintMore
attribute [local go_sem] max2_int min2_int max_two min_two max_three min_three max_four min_four   -- for this text's walks alone
attribute [local go_sem] Go.Proofs.Ytohbdjfabghagaa.XWalk.cell2
set_option linter.unusedVariables false
set_option linter.unusedSimpArgs false

/-! ### money_Sub: function 31 -/
def money_Sub.f (a0 : Int) (a1 : Int) : Option (Int × Int) := if ((decide (a0 < 0)) == (decide (a1 < 0))) = true then ((money_told.f (wrap64 (a0 - a1)) true).bind fun bt332 => (some (bt332.1, bt332.2))) else ((money_told.f (wrap64 (a0 - a1)) ((decide ((wrap64 (a0 - a1)) < 0)) == (decide (a0 < 0)))).bind fun bt334 => (some (bt334.1, bt334.2)))
set_option maxHeartbeats 8000000 in
set_option maxRecDepth 100000 in
theorem money_Sub.calls (a0 : Int) (a1 : Int) (r1 : Int) (r2 : Int) (w : World) (h : money_Sub.f a0 a1 = some (r1, r2)) :
    Calls Try.prog 31 #[.int .i64 a0, .int .i64 a1] w fun e w' => e = .returned (.tuple #[.int .i64 r1, .int .i64 r2]) ∧ Drawn0 w w' := by
  have H : (if ((decide (a0 < 0)) == (decide (a1 < 0))) = true then ((money_told.f (wrap64 (a0 - a1)) true).bind fun bt332 => (some (bt332.1, bt332.2))) else ((money_told.f (wrap64 (a0 - a1)) ((decide ((wrap64 (a0 - a1)) < 0)) == (decide (a0 < 0)))).bind fun bt334 => (some (bt334.1, bt334.2)))) = some (r1, r2) := h
  clear h
  by_cases c3 : ((decide (a0 < 0)) == (decide (a1 < 0))) = true
  · rw [if_pos c3] at H
    have c3b0 : ((decide (a0 < 0)) == (decide (a1 < 0))) = true := c3
    (try (have c3b1 : decide ((decide (a0 < 0)) = (decide (a1 < 0))) = true := by simpa using c3))
    (try (have c3b2 : ((decide (a0 < 0)) == (decide (a1 < 0))) = true := by simpa using c3))
    clear c3
    replace H := Option.bind_eq_some_iff.mp H
    obtain ⟨⟨t332, t333⟩, A40, H⟩ := H
    replace H : (some (t332, t333)) = some (r1, r2) := H
    have A4 := Aside0.mk A40
    clear A40
    simp only [Option.some.injEq, Prod.mk.injEq] at H
    obtain ⟨rfl, rfl⟩ := H
    go_enter Try.func31, Try.ntmps31
    go_wp2_with (first | ((with_reducible refine gate_callee (f := 54) rfl ?_); refine goesL_ (some 23) rfl rfl Try.func54 (by kernel_rfl) rfl #[.int .i64 (wrap64 (a0 - a1)), .bool true] rfl (by (try simp only [List.map_toArray, List.map_cons, List.map_nil]); first | done | rfl | (simp only [List.length_drop, List.length_take]; rfl)) ?_; (with_reducible refine (money_told.calls (wrap64 (a0 - a1)) true t332 t333 _ A4.out).mono ?_); rintro e w' ⟨rfl, ⟨nd, rfl⟩⟩; refine ⟨_, rfl, ?_⟩))
    go_ret2
    exact ⟨by first | rfl | (simp; done) | (simp [*]; done), by repeat (first | exact Drawn0.refl _ | apply Drawn0.step)⟩
  · rw [if_neg c3] at H
    have c3b0 : ((decide (a0 < 0)) == (decide (a1 < 0))) = false := by simpa using c3
    (try (have c3b1 : decide ((decide (a0 < 0)) = (decide (a1 < 0))) = false := by simpa using c3))
    (try (have c3b2 : ((decide (a0 < 0)) == (decide (a1 < 0))) = false := by simpa using c3))
    (try (have c3b3 : ¬ ((decide (a0 < 0)) = (decide (a1 < 0))) := by simpa using c3))
    clear c3
    replace H := Option.bind_eq_some_iff.mp H
    obtain ⟨⟨t334, t335⟩, A50, H⟩ := H
    replace H : (some (t334, t335)) = some (r1, r2) := H
    have A5 := Aside0.mk A50
    clear A50
    simp only [Option.some.injEq, Prod.mk.injEq] at H
    obtain ⟨rfl, rfl⟩ := H
    go_enter Try.func31, Try.ntmps31
    go_wp2_with (first | ((with_reducible refine gate_callee (f := 54) rfl ?_); refine goesL_ (some 23) rfl rfl Try.func54 (by kernel_rfl) rfl #[.int .i64 (wrap64 (a0 - a1)), .bool ((decide ((wrap64 (a0 - a1)) < 0)) == (decide (a0 < 0)))] rfl (by (try simp only [List.map_toArray, List.map_cons, List.map_nil]); first | done | rfl | (simp only [List.length_drop, List.length_take]; rfl)) ?_; (with_reducible refine (money_told.calls (wrap64 (a0 - a1)) ((decide ((wrap64 (a0 - a1)) < 0)) == (decide (a0 < 0))) t334 t335 _ A5.out).mono ?_); rintro e w' ⟨rfl, ⟨nd, rfl⟩⟩; refine ⟨_, rfl, ?_⟩))
    go_ret2
    exact ⟨by first | rfl | (simp; done) | (simp [*]; done), by repeat (first | exact Drawn0.refl _ | apply Drawn0.step)⟩

end Go.Proofs.Ytohbdjfabghagaa.S
end

section
namespace Go.Proofs.Ytohbdjfabghagaa.S
open Go.RowKit Go.Proofs.YtohbdjfabghagaaW.PrintWords Go.Proofs.YtohbdjfabghagaaW.PrintLast Go.Proofs.YtohbdjfabghagaaW.PrintMore
attribute [local go_sem] max2_int min2_int max_two min_two max_three min_three max_four min_four   -- for this text's walks alone
attribute [local go_sem] Go.Proofs.Ytohbdjfabghagaa.XWalk.cell2
set_option linter.unusedVariables false
set_option linter.unusedSimpArgs false

/-! ### money_Neg: function 35 -/
def money_Neg.f (a0 : Int) : Option (Int × Int) := (money_Sub.f 0 a0).bind fun bt354 => (some (bt354.1, bt354.2))
set_option maxHeartbeats 8000000 in
set_option maxRecDepth 100000 in
theorem money_Neg.calls (a0 : Int) (r1 : Int) (r2 : Int) (w : World) (h : money_Neg.f a0 = some (r1, r2)) :
    Calls Try.prog 35 #[.int .i64 a0] w fun e w' => e = .returned (.tuple #[.int .i64 r1, .int .i64 r2]) ∧ Drawn0 w w' := by
  have H : ((money_Sub.f 0 a0).bind fun bt354 => (some (bt354.1, bt354.2))) = some (r1, r2) := h
  clear h
  replace H := Option.bind_eq_some_iff.mp H
  obtain ⟨⟨t354, t355⟩, A20, H⟩ := H
  replace H : (some (t354, t355)) = some (r1, r2) := H
  have A2 := Aside0.mk A20
  clear A20
  simp only [Option.some.injEq, Prod.mk.injEq] at H
  obtain ⟨rfl, rfl⟩ := H
  go_enter Try.func35, Try.ntmps35
  go_wp2_with (first | ((with_reducible refine gate_callee (f := 31) rfl ?_); refine goesL_ (some 5) rfl rfl Try.func31 (by kernel_rfl) rfl #[.int .i64 0, .int .i64 a0] rfl (by (try simp only [List.map_toArray, List.map_cons, List.map_nil]); first | done | rfl | (simp only [List.length_drop, List.length_take]; rfl)) ?_; (with_reducible refine (money_Sub.calls 0 a0 t354 t355 _ A2.out).mono ?_); rintro e w' ⟨rfl, ⟨nd, rfl⟩⟩; refine ⟨_, rfl, ?_⟩))
  go_ret2
  exact ⟨by first | rfl | (simp; done) | (simp [*]; done), by repeat (first | exact Drawn0.refl _ | apply Drawn0.step)⟩

end Go.Proofs.Ytohbdjfabghagaa.S
end

section
namespace Go.Proofs.Ytohbdjfabghagaa.S
open Go.RowKit Go.Proofs.YtohbdjfabghagaaW.PrintWords Go.Proofs.YtohbdjfabghagaaW.PrintLast Go.Proofs.YtohbdjfabghagaaW.PrintMore
attribute [local go_sem] max2_int min2_int max_two min_two max_three min_three max_four min_four   -- for this text's walks alone
attribute [local go_sem] Go.Proofs.Ytohbdjfabghagaa.XWalk.cell2
set_option linter.unusedVariables false
set_option linter.unusedSimpArgs false

/-! ### lombardref01_Neg: function 36 -/
def lombardref01_Neg.f (a0 : Int) : Option (Int × Int) := (lombardref01_Sub.f 0 a0).bind fun bt348 => (some (bt348.1, bt348.2))
set_option maxHeartbeats 8000000 in
set_option maxRecDepth 100000 in
theorem lombardref01_Neg.calls (a0 : Int) (r1 : Int) (r2 : Int) (w : World) (h : lombardref01_Neg.f a0 = some (r1, r2)) :
    Calls Try.prog 36 #[.int .i64 a0] w fun e w' => e = .returned (.tuple #[.int .i64 r1, .int .i64 r2]) ∧ Drawn0 w w' := by
  have H : ((lombardref01_Sub.f 0 a0).bind fun bt348 => (some (bt348.1, bt348.2))) = some (r1, r2) := h
  clear h
  replace H := Option.bind_eq_some_iff.mp H
  obtain ⟨⟨t348, t349⟩, A20, H⟩ := H
  replace H : (some (t348, t349)) = some (r1, r2) := H
  have A2 := Aside0.mk A20
  clear A20
  simp only [Option.some.injEq, Prod.mk.injEq] at H
  obtain ⟨rfl, rfl⟩ := H
  go_enter Try.func36, Try.ntmps36
  go_wp2_with (first | ((with_reducible refine gate_callee (f := 32) rfl ?_); refine goesL_ (some 5) rfl rfl Try.func32 (by kernel_rfl) rfl #[.int .i64 0, .int .i64 a0] rfl (by (try simp only [List.map_toArray, List.map_cons, List.map_nil]); first | done | rfl | (simp only [List.length_drop, List.length_take]; rfl)) ?_; (with_reducible refine (lombardref01_Sub.calls 0 a0 t348 t349 _ A2.out).mono ?_); rintro e w' ⟨rfl, ⟨nd, rfl⟩⟩; refine ⟨_, rfl, ?_⟩))
  go_ret2
  exact ⟨by first | rfl | (simp; done) | (simp [*]; done), by repeat (first | exact Drawn0.refl _ | apply Drawn0.step)⟩

end Go.Proofs.Ytohbdjfabghagaa.S
end

section
namespace Go.Proofs.Ytohbdjfabghagaa.S
open Go.RowKit Go.Proofs.YtohbdjfabghagaaW.PrintWords Go.Proofs.YtohbdjfabghagaaW.PrintLast Go.Proofs.YtohbdjfabghagaaW.PrintMore
attribute [local go_sem] max2_int min2_int max_two min_two max_three min_three max_four min_four   -- for this text's walks alone
attribute [local go_sem] Go.Proofs.Ytohbdjfabghagaa.XWalk.cell2
set_option linter.unusedVariables false
set_option linter.unusedSimpArgs false

/-! ### lombardref01_Mul: function 34 -/
def lombardref01_Mul.j0 : Nat → Int → Int → Bool → Option (Int × Int)
  | 0, _, _, _ => none
  | k + 1, x0, x1, x12 => if x12 = true then (some (0, 0)) else (if x0 = (-1) then ((lombardref01_Neg.f x1).bind fun bt350 => (some (bt350.1, bt350.2))) else (if x1 = (-1) then ((lombardref01_Neg.f x0).bind fun bt352 => (some (bt352.1, bt352.2))) else (if x1 = 0 then (none) else (if (wrap64 (Int.tdiv (wrap64 (x0 * x1)) x1)) = x0 then (some (wrap64 (x0 * x1), 0)) else (some (0, 3))))))
def lombardref01_Mul.f (k : Nat) (a0 : Int) (a1 : Int) : Option (Int × Int) := if a0 = 0 then (lombardref01_Mul.j0 k a0 a1 true) else (lombardref01_Mul.j0 k a0 a1 (a1 == 0))
theorem lombardref01_Mul.mono_l : ∀ k, (∀ y0 y1 y2, LeO (lombardref01_Mul.j0 k y0 y1 y2) (lombardref01_Mul.j0 (k + 1) y0 y1 y2))
  | 0 => fun _ _ _ r h => by simp [lombardref01_Mul.j0] at h
  | k + 1 => by
    have ih0 := lombardref01_Mul.mono_l k
    · intro y0 y1 y2
      unfold lombardref01_Mul.j0
      repeat' first
      | (with_reducible exact ih0 _ _ _)
      | (with_reducible exact LeO.refl _)
      | (with_reducible exact LeO.none _)
      | (with_reducible refine LeO.ite ?_ ?_)
      | (with_reducible refine LeO.bind ?_ (fun _ => ?_))
      | exact ih0 _ _ _
      | exact LeO.none _
      | refine LeO.ite ?_ ?_
      | refine LeO.bind ?_ (fun _ => ?_)
theorem lombardref01_Mul.mono : ∀ a0 a1 k, LeO (lombardref01_Mul.f k a0 a1) (lombardref01_Mul.f (k + 1) a0 a1) := by
  intro a0 a1 k
  have ih0 := lombardref01_Mul.mono_l k
  unfold lombardref01_Mul.f
  repeat' first
      | (with_reducible exact ih0 _ _ _)
      | (with_reducible exact LeO.refl _)
      | (with_reducible exact LeO.none _)
      | (with_reducible refine LeO.ite ?_ ?_)
      | (with_reducible refine LeO.bind ?_ (fun _ => ?_))
      | exact ih0 _ _ _
      | exact LeO.none _
      | refine LeO.ite ?_ ?_
      | refine LeO.bind ?_ (fun _ => ?_)
set_option maxHeartbeats 8000000 in
set_option maxRecDepth 100000 in
theorem lombardref01_Mul.calls (k : Nat) (a0 : Int) (a1 : Int) (r1 : Int) (r2 : Int) (w : World) (h : lombardref01_Mul.f k a0 a1 = some (r1, r2)) :
    Calls Try.prog 34 #[.int .i64 a0, .int .i64 a1] w fun e w' => e = .returned (.tuple #[.int .i64 r1, .int .i64 r2]) ∧ Drawn0 w w' := by
  have H : (if a0 = 0 then (lombardref01_Mul.j0 k a0 a1 true) else (lombardref01_Mul.j0 k a0 a1 (a1 == 0))) = some (r1, r2) := h
  clear h
  have HC3 := Aside0.mk H
  clear H
  go_enter Try.func34, Try.ntmps34
  go_upto_region 1 with (fail)
  go_cut [12] (fun v12 wc => ∃ (kq : Nat) (x12_2 : Bool), v12 = .bool x12_2 ∧ Aside0 (lombardref01_Mul.j0 kq a0 a1 x12_2 = some (r1, r2)) ∧ Aside0 (kq ≤ k) ∧ Drawn0 w wc)
  case first =>
    have H := HC3.out
    clear HC3
    by_cases c4 : a0 = 0
    · rw [if_pos c4] at H
      have c4b0 : (a0 == 0) = true := beq_iff_eq.mpr c4
      have c4b1 : (a0 != 0) = false := bne_eq_false_iff_eq.mpr c4
      clear c4
      (first | rw [c4b0] | (simp only [i64_w, i32_w]; rw [c4b0]) | skip)
      have H' := Aside0.mk H
      clear H
      go_wp2
      go_meet
      case rel => exact ⟨_, (true), (by first | rfl | (simp; done) | (simp [*]; done)), H', ⟨by first | omega | exact Nat.le_refl _⟩, by repeat (first | exact Drawn0.refl _ | apply Drawn0.step)⟩
    · rw [if_neg c4] at H
      have c4b0 : (a0 == 0) = false := beq_eq_false_iff_ne.mpr c4
      have c4b1 : (a0 != 0) = true := bne_iff_ne.mpr c4
      (first | rw [c4b0] | (simp only [i64_w, i32_w]; rw [c4b0]) | skip)
      have H' := Aside0.mk H
      clear H
      go_wp2
      go_meet
      case rel => exact ⟨_, ((a1 == 0)), (by first | rfl | (simp; done) | (simp [*]; done)), H', ⟨by first | omega | exact Nat.le_refl _⟩, by repeat (first | exact Drawn0.refl _ | apply Drawn0.step)⟩
  case rest =>
    clear HC3
    try clear p2
    try clear c3
    try clear c4
    try clear c4b0
    try clear c4b1
    obtain ⟨kq, x12_2, rfl, HA, HJ2, ⟨mc2, rfl⟩⟩ := hcut
    cases kq with
    | zero => exact absurd HA.out (by simp [lombardref01_Mul.j0])
    | succ kj2 =>
      have H := HA.out
      clear HA
      simp only [lombardref01_Mul.j0] at H
      by_cases c5 : x12_2 = true
      · subst c5
        have H1 : (some (0, 0)) = some (r1, r2) := by rw [if_pos rfl] at H; exact H
        clear H
        have H := H1
        clear H1
        simp only [Option.some.injEq, Prod.mk.injEq] at H
        obtain ⟨rfl, rfl⟩ := H
        go_wp2
        go_ret2
        exact ⟨by first | rfl | (simp; done) | (simp [*]; done), by repeat (first | exact Drawn0.refl _ | apply Drawn0.step)⟩
      · replace c5 := Bool.eq_false_iff.mpr c5
        subst c5
        have H1 : (if a0 = (-1) then ((lombardref01_Neg.f a1).bind fun bt350 => (some (bt350.1, bt350.2))) else (if a1 = (-1) then ((lombardref01_Neg.f a0).bind fun bt352 => (some (bt352.1, bt352.2))) else (if a1 = 0 then (none) else (if (wrap64 (Int.tdiv (wrap64 (a0 * a1)) a1)) = a0 then (some (wrap64 (a0 * a1), 0)) else (some (0, 3)))))) = some (r1, r2) := by rw [if_neg (show ¬ (false = true) by decide)] at H; exact H
        clear H
        have H := H1
        clear H1
        by_cases c6 : a0 = (-1)
        · rw [if_pos c6] at H
          have c6b0 : (a0 == (-1)) = true := beq_iff_eq.mpr c6
          have c6b1 : (a0 != (-1)) = false := bne_eq_false_iff_eq.mpr c6
          clear c6
          replace H := Option.bind_eq_some_iff.mp H
          obtain ⟨⟨t350, t351⟩, A70, H⟩ := H
          replace H : (some (t350, t351)) = some (r1, r2) := H
          have A7 := Aside0.mk A70
          clear A70
          simp only [Option.some.injEq, Prod.mk.injEq] at H
          obtain ⟨rfl, rfl⟩ := H
          go_wp2_with (first | ((with_reducible refine gate_callee (f := 36) rfl ?_); refine goesL_ (some 16) rfl rfl Try.func36 (by kernel_rfl) rfl #[.int .i64 a1] rfl (by (try simp only [List.map_toArray, List.map_cons, List.map_nil]); first | done | rfl | (simp only [List.length_drop, List.length_take]; rfl)) ?_; (with_reducible refine (lombardref01_Neg.calls a1 t350 t351 _ A7.out).mono ?_); rintro e w' ⟨rfl, ⟨nd, rfl⟩⟩; refine ⟨_, rfl, ?_⟩))
          go_ret2
          exact ⟨by first | rfl | (simp; done) | (simp [*]; done), by repeat (first | exact Drawn0.refl _ | apply Drawn0.step)⟩
        · rw [if_neg c6] at H
          have c6b0 : (a0 == (-1)) = false := beq_eq_false_iff_ne.mpr c6
          have c6b1 : (a0 != (-1)) = true := bne_iff_ne.mpr c6
          by_cases c8 : a1 = (-1)
          · rw [if_pos c8] at H
            have c8b0 : (a1 == (-1)) = true := beq_iff_eq.mpr c8
            have c8b1 : (a1 != (-1)) = false := bne_eq_false_iff_eq.mpr c8
            clear c8
            replace H := Option.bind_eq_some_iff.mp H
            obtain ⟨⟨t352, t353⟩, A90, H⟩ := H
            replace H : (some (t352, t353)) = some (r1, r2) := H
            have A9 := Aside0.mk A90
            clear A90
            simp only [Option.some.injEq, Prod.mk.injEq] at H
            obtain ⟨rfl, rfl⟩ := H
            go_wp2_with (first | ((with_reducible refine gate_callee (f := 36) rfl ?_); refine goesL_ (some 22) rfl rfl Try.func36 (by kernel_rfl) rfl #[.int .i64 a0] rfl (by (try simp only [List.map_toArray, List.map_cons, List.map_nil]); first | done | rfl | (simp only [List.length_drop, List.length_take]; rfl)) ?_; (with_reducible refine (lombardref01_Neg.calls a0 t352 t353 _ A9.out).mono ?_); rintro e w' ⟨rfl, ⟨nd, rfl⟩⟩; refine ⟨_, rfl, ?_⟩))
            go_ret2
            exact ⟨by first | rfl | (simp; done) | (simp [*]; done), by repeat (first | exact Drawn0.refl _ | apply Drawn0.step)⟩
          · rw [if_neg c8] at H
            have c8b0 : (a1 == (-1)) = false := beq_eq_false_iff_ne.mpr c8
            have c8b1 : (a1 != (-1)) = true := bne_iff_ne.mpr c8
            by_cases c10 : a1 = 0
            · rw [if_pos c10] at H
              exact absurd H (by simp)
            · rw [if_neg c10] at H
              have c10b0 : (a1 == 0) = false := beq_eq_false_iff_ne.mpr c10
              have c10b1 : (a1 != 0) = true := bne_iff_ne.mpr c10
              by_cases c11 : (wrap64 (Int.tdiv (wrap64 (a0 * a1)) a1)) = a0
              · rw [if_pos c11] at H
                have c11b0 : ((wrap64 (Int.tdiv (wrap64 (a0 * a1)) a1)) == a0) = true := beq_iff_eq.mpr c11
                have c11b1 : ((wrap64 (Int.tdiv (wrap64 (a0 * a1)) a1)) != a0) = false := bne_eq_false_iff_eq.mpr c11
                clear c11
                simp only [Option.some.injEq, Prod.mk.injEq] at H
                obtain ⟨rfl, rfl⟩ := H
                go_wp2
                go_ret2
                exact ⟨by first | rfl | (simp; done) | (simp [*]; done), by repeat (first | exact Drawn0.refl _ | apply Drawn0.step)⟩
              · rw [if_neg c11] at H
                have c11b0 : ((wrap64 (Int.tdiv (wrap64 (a0 * a1)) a1)) == a0) = false := beq_eq_false_iff_ne.mpr c11
                have c11b1 : ((wrap64 (Int.tdiv (wrap64 (a0 * a1)) a1)) != a0) = true := bne_iff_ne.mpr c11
                simp only [Option.some.injEq, Prod.mk.injEq] at H
                obtain ⟨rfl, rfl⟩ := H
                go_wp2
                go_ret2
                exact ⟨by first | rfl | (simp; done) | (simp [*]; done), by repeat (first | exact Drawn0.refl _ | apply Drawn0.step)⟩

end Go.Proofs.Ytohbdjfabghagaa.S
end

section
namespace Go.Proofs.Ytohbdjfabghagaa.S
open Go.RowKit Go.Proofs.YtohbdjfabghagaaW.PrintWords Go.Proofs.YtohbdjfabghagaaW.PrintLast Go.Proofs.YtohbdjfabghagaaW.PrintMore
attribute [local go_sem] max2_int min2_int max_two min_two max_three min_three max_four min_four   -- for this text's walks alone
attribute [local go_sem] Go.Proofs.Ytohbdjfabghagaa.XWalk.cell2
set_option linter.unusedVariables false
set_option linter.unusedSimpArgs false

/-! ### lombardref01_Add: function 30 -/
def lombardref01_Add.f (a0 : Int) (a1 : Int) : Option (Int × Int) := if a1 > 0 then (if a0 > (wrap64 (9223372036854775807 - a1)) then (some (0, 3)) else (if a1 < 0 then (if a0 < (wrap64 ((-9223372036854775808) - a1)) then (some (0, 3)) else (some (wrap64 (a0 + a1), 0))) else (some (wrap64 (a0 + a1), 0)))) else (if a1 < 0 then (if a0 < (wrap64 ((-9223372036854775808) - a1)) then (some (0, 3)) else (some (wrap64 (a0 + a1), 0))) else (some (wrap64 (a0 + a1), 0)))
set_option maxHeartbeats 8000000 in
set_option maxRecDepth 100000 in
theorem lombardref01_Add.calls (a0 : Int) (a1 : Int) (r1 : Int) (r2 : Int) (w : World) (h : lombardref01_Add.f a0 a1 = some (r1, r2)) :
    Calls Try.prog 30 #[.int .i64 a0, .int .i64 a1] w fun e w' => e = .returned (.tuple #[.int .i64 r1, .int .i64 r2]) ∧ Drawn0 w w' := by
  have H : (if a1 > 0 then (if a0 > (wrap64 (9223372036854775807 - a1)) then (some (0, 3)) else (if a1 < 0 then (if a0 < (wrap64 ((-9223372036854775808) - a1)) then (some (0, 3)) else (some (wrap64 (a0 + a1), 0))) else (some (wrap64 (a0 + a1), 0)))) else (if a1 < 0 then (if a0 < (wrap64 ((-9223372036854775808) - a1)) then (some (0, 3)) else (some (wrap64 (a0 + a1), 0))) else (some (wrap64 (a0 + a1), 0)))) = some (r1, r2) := h
  clear h
  by_cases c3 : a1 > 0
  · rw [if_pos c3] at H
    have c3b0 : decide (0 < a1) = true := decide_eq_true c3
    clear c3
    by_cases c4 : a0 > (wrap64 (9223372036854775807 - a1))
    · rw [if_pos c4] at H
      have c4b0 : decide ((wrap64 (9223372036854775807 - a1)) < a0) = true := decide_eq_true c4
      clear c4
      simp only [Option.some.injEq, Prod.mk.injEq] at H
      obtain ⟨rfl, rfl⟩ := H
      go_enter Try.func30, Try.ntmps30
      go_wp2
      go_ret2
      exact ⟨by first | rfl | (simp; done) | (simp [*]; done), by repeat (first | exact Drawn0.refl _ | apply Drawn0.step)⟩
    · rw [if_neg c4] at H
      have c4b0 : decide ((wrap64 (9223372036854775807 - a1)) < a0) = false := decide_eq_false c4
      clear c4
      by_cases c5 : a1 < 0
      · rw [if_pos c5] at H
        have c5b0 : decide (a1 < 0) = true := decide_eq_true c5
        clear c5
        by_cases c6 : a0 < (wrap64 ((-9223372036854775808) - a1))
        · rw [if_pos c6] at H
          have c6b0 : decide (a0 < (wrap64 ((-9223372036854775808) - a1))) = true := decide_eq_true c6
          clear c6
          simp only [Option.some.injEq, Prod.mk.injEq] at H
          obtain ⟨rfl, rfl⟩ := H
          go_enter Try.func30, Try.ntmps30
          go_wp2
          go_ret2
          exact ⟨by first | rfl | (simp; done) | (simp [*]; done), by repeat (first | exact Drawn0.refl _ | apply Drawn0.step)⟩
        · rw [if_neg c6] at H
          have c6b0 : decide (a0 < (wrap64 ((-9223372036854775808) - a1))) = false := decide_eq_false c6
          clear c6
          simp only [Option.some.injEq, Prod.mk.injEq] at H
          obtain ⟨rfl, rfl⟩ := H
          go_enter Try.func30, Try.ntmps30
          go_wp2
          go_ret2
          exact ⟨by first | rfl | (simp; done) | (simp [*]; done), by repeat (first | exact Drawn0.refl _ | apply Drawn0.step)⟩
      · rw [if_neg c5] at H
        have c5b0 : decide (a1 < 0) = false := decide_eq_false c5
        clear c5
        simp only [Option.some.injEq, Prod.mk.injEq] at H
        obtain ⟨rfl, rfl⟩ := H
        go_enter Try.func30, Try.ntmps30
        go_wp2
        go_ret2
        exact ⟨by first | rfl | (simp; done) | (simp [*]; done), by repeat (first | exact Drawn0.refl _ | apply Drawn0.step)⟩
  · rw [if_neg c3] at H
    have c3b0 : decide (0 < a1) = false := decide_eq_false c3
    clear c3
    by_cases c7 : a1 < 0
    · rw [if_pos c7] at H
      have c7b0 : decide (a1 < 0) = true := decide_eq_true c7
      clear c7
      by_cases c8 : a0 < (wrap64 ((-9223372036854775808) - a1))
      · rw [if_pos c8] at H
        have c8b0 : decide (a0 < (wrap64 ((-9223372036854775808) - a1))) = true := decide_eq_true c8
        clear c8
        simp only [Option.some.injEq, Prod.mk.injEq] at H
        obtain ⟨rfl, rfl⟩ := H
        go_enter Try.func30, Try.ntmps30
        go_wp2
        go_ret2
        exact ⟨by first | rfl | (simp; done) | (simp [*]; done), by repeat (first | exact Drawn0.refl _ | apply Drawn0.step)⟩
      · rw [if_neg c8] at H
        have c8b0 : decide (a0 < (wrap64 ((-9223372036854775808) - a1))) = false := decide_eq_false c8
        clear c8
        simp only [Option.some.injEq, Prod.mk.injEq] at H
        obtain ⟨rfl, rfl⟩ := H
        go_enter Try.func30, Try.ntmps30
        go_wp2
        go_ret2
        exact ⟨by first | rfl | (simp; done) | (simp [*]; done), by repeat (first | exact Drawn0.refl _ | apply Drawn0.step)⟩
    · rw [if_neg c7] at H
      have c7b0 : decide (a1 < 0) = false := decide_eq_false c7
      clear c7
      simp only [Option.some.injEq, Prod.mk.injEq] at H
      obtain ⟨rfl, rfl⟩ := H
      go_enter Try.func30, Try.ntmps30
      go_wp2
      go_ret2
      exact ⟨by first | rfl | (simp; done) | (simp [*]; done), by repeat (first | exact Drawn0.refl _ | apply Drawn0.step)⟩

end Go.Proofs.Ytohbdjfabghagaa.S
end

section
namespace Go.Proofs.Ytohbdjfabghagaa.XMoney
set_option linter.unusedVariables false
set_option linter.unusedSimpArgs false
open Go.RowKit Go.Proofs.Ytohbdjfabghagaa.S Go.Proofs.Ytohbdjfabghagaa.XNum Go.Proofs.Ytohbdjfabghagaa.XBits Go.Proofs.Ytohbdjfabghagaa.XWide Go.Proofs.YtohbdjfabghagaaW.PrintWords

/-- A number, or that it is too great. -/
def told (n : Int) : Int × Int := if -9223372036854775808 ≤ n ∧ n ≤ 9223372036854775807 then (n, 0) else (0, 3)
theorem told_in {n : Int} (h0 : -9223372036854775808 ≤ n) (h1 : n ≤ 9223372036854775807) : told n = (n, 0) := by unfold told; rw [if_pos ⟨h0, h1⟩]
theorem told_out {n : Int} (h : n < -9223372036854775808 ∨ 9223372036854775807 < n) : told n = (0, 3) := by unfold told; rw [if_neg (by omega)]
theorem told_f (n : Int) (b : Bool) : money_told.f n b = some (if b = true then (n, 0) else (0, 3)) := by
  unfold money_told.f
  cases b <;> simp

theorem add {a b : Int} (ha : I64 a) (hb : I64 b) : money_Add.f a b = some (told (a + b)) := by
  obtain ⟨a0, a1⟩ := ha
  obtain ⟨b0, b1⟩ := hb
  unfold money_Add.f money_sum_int64.f
  by_cases ca : a < 0
  · by_cases cb : b < 0
    · rw [decide_eq_true ca, decide_eq_true cb]
      simp only [beq_self_eq_true, Bool.not_true, Bool.false_eq_true, if_false, Option.bind_some, told_f]
      by_cases c : a + b < -9223372036854775808
      · rw [told_out (.inl c), decide_eq_false (by unfold wrap64; omega)]
        simp
      · rw [told_in (by omega) (by omega), w64 (by omega) (by omega), decide_eq_true (by omega)]
        simp
    · rw [decide_eq_true ca, decide_eq_false cb, told_in (by omega) (by omega), w64 (by omega) (by omega)]
      simp [told_f]
  · by_cases cb : b < 0
    · rw [decide_eq_false ca, decide_eq_true cb, told_in (by omega) (by omega), w64 (by omega) (by omega)]
      simp [told_f]
    · rw [decide_eq_false ca, decide_eq_false cb]
      simp only [beq_self_eq_true, Bool.not_true, Bool.false_eq_true, if_false, Option.bind_some, told_f]
      by_cases c : a + b > 9223372036854775807
      · rw [told_out (.inr c), decide_eq_true (by unfold wrap64; omega)]
        simp
      · rw [told_in (by omega) (by omega), w64 (by omega) (by omega), decide_eq_false (by omega)]
        simp

theorem sub {a b : Int} (ha : I64 a) (hb : I64 b) : money_Sub.f a b = some (told (a - b)) := by
  obtain ⟨a0, a1⟩ := ha
  obtain ⟨b0, b1⟩ := hb
  unfold money_Sub.f
  by_cases ca : a < 0
  · by_cases cb : b < 0
    · rw [decide_eq_true ca, decide_eq_true cb, told_in (by omega) (by omega), w64 (by omega) (by omega)]
      simp [told_f]
    · rw [decide_eq_true ca, decide_eq_false cb]
      simp only [beq_false, Bool.not_true, Bool.false_eq_true, if_false, Option.bind_some, told_f]
      by_cases c : a - b < -9223372036854775808
      · rw [told_out (.inl c), decide_eq_false (by unfold wrap64; omega)]
        simp
      · rw [told_in (by omega) (by omega), w64 (by omega) (by omega), decide_eq_true (by omega)]
        simp
  · by_cases cb : b < 0
    · rw [decide_eq_false ca, decide_eq_true cb]
      simp only [beq_true, Bool.false_eq_true, if_false, Option.bind_some, told_f]
      by_cases c : a - b > 9223372036854775807
      · rw [told_out (.inr c), decide_eq_true (by unfold wrap64; omega)]
        simp
      · rw [told_in (by omega) (by omega), w64 (by omega) (by omega), decide_eq_false (by omega)]
        simp
    · rw [decide_eq_false ca, decide_eq_false cb, told_in (by omega) (by omega), w64 (by omega) (by omega)]
      simp [told_f]

theorem neg {a : Int} (ha : I64 a) : money_Neg.f a = some (told (-a)) := by
  unfold money_Neg.f
  rw [sub ⟨by omega, by omega⟩ ha]
  simp

theorem size {a : Int} (ha : I64 a) : money_size_int64.f a = some (if a < 0 then -a else a) := by
  obtain ⟨a0, a1⟩ := ha
  unfold money_size_int64.f
  split
  · rw [wu, wu]
    congr 1 <;> omega
  · rw [wu]
    congr 1 <;> omega

theorem mul {a b : Int} (ha : I64 a) (hb : I64 b) : money_Mul.f a b = some (told (a * b)) := by
  have hm := mul_i64 ha hb
  unfold money_Mul.f
  rw [size ha, size hb]
  simp only [Option.bind_some, told_f]
  obtain ⟨a0, a1⟩ := ha
  obtain ⟨b0, b1⟩ := hb
  have P : ∀ x y : Int, 0 ≤ x → x ≤ 9223372036854775808 → 0 ≤ y → y ≤ 9223372036854775808 → 0 ≤ x * y ∧ x * y ≤ 85070591730234615865843651857942052864 := by
    intro x y x0 x1 y0 y1
    refine ⟨Int.mul_nonneg x0 y0, ?_⟩
    have := mul_bd (C := 9223372036854775808) (D := 9223372036854775808) (a := x) (b := y) (by omega) x1 (by omega) y1
    omega
  by_cases ca : a < 0
  · by_cases cb : b < 0
    · rw [if_pos ca, if_pos cb, decide_eq_true ca, decide_eq_true cb, mul64 (by omega) (by omega) (by omega) (by omega), Int.neg_mul_neg]
      have := (P (-a) (-b) (by omega) (by omega) (by omega) (by omega)).1
      rw [Int.neg_mul_neg] at this
      generalize a * b = m at *
      simp only [Option.bind_some, beq_self_eq_true, Bool.not_true, Bool.false_eq_true, if_false]
      by_cases c : m / 18446744073709551616 = 0
      · rw [if_pos c]
        by_cases d : m % 18446744073709551616 < 9223372036854775808
        · rw [decide_eq_true d, told_in (by omega) (by omega), w64 (by omega) (by omega)]
          simp <;> omega
        · rw [decide_eq_false d, told_out (by omega)]
          simp
      · rw [if_neg c, told_out (by omega)]
        first | done | simp
    · rw [if_pos ca, if_neg cb, decide_eq_true ca, decide_eq_false cb, mul64 (by omega) (by omega) (by omega) (by omega), Int.neg_mul]
      have := (P (-a) b (by omega) (by omega) (by omega) (by omega)).1
      rw [Int.neg_mul] at this
      generalize a * b = m at *
      simp only [Option.bind_some, beq_false, Bool.not_true, Bool.not_false, if_true]
      by_cases c : -m / 18446744073709551616 = 0
      · rw [if_pos c]
        by_cases d : -m % 18446744073709551616 ≤ 9223372036854775808
        · rw [decide_eq_true d, told_in (by omega) (by omega), wu]
          simp
          unfold wrap64
          omega
        · rw [decide_eq_false d, told_out (by omega)]
          simp
      · rw [if_neg c, told_out (by omega)]
        first | done | simp
  · by_cases cb : b < 0
    · rw [if_neg ca, if_pos cb, decide_eq_false ca, decide_eq_true cb, mul64 (by omega) (by omega) (by omega) (by omega), Int.mul_neg]
      have := (P a (-b) (by omega) (by omega) (by omega) (by omega)).1
      rw [Int.mul_neg] at this
      generalize a * b = m at *
      simp only [Option.bind_some, beq_true, Bool.not_false, if_true]
      by_cases c : -m / 18446744073709551616 = 0
      · rw [if_pos c]
        by_cases d : -m % 18446744073709551616 ≤ 9223372036854775808
        · rw [decide_eq_true d, told_in (by omega) (by omega), wu]
          simp
          unfold wrap64
          omega
        · rw [decide_eq_false d, told_out (by omega)]
          simp
      · rw [if_neg c, told_out (by omega)]
        first | done | simp
    · rw [if_neg ca, if_neg cb, decide_eq_false ca, decide_eq_false cb, mul64 (by omega) (by omega) (by omega) (by omega)]
      have := (P a b (by omega) (by omega) (by omega) (by omega)).1
      generalize a * b = m at *
      simp only [Option.bind_some, beq_self_eq_true, Bool.not_true, Bool.false_eq_true, if_false]
      by_cases c : m / 18446744073709551616 = 0
      · rw [if_pos c]
        by_cases d : m % 18446744073709551616 < 9223372036854775808
        · rw [decide_eq_true d, told_in (by omega) (by omega), w64 (by omega) (by omega)]
          simp <;> omega
        · rw [decide_eq_false d, told_out (by omega)]
          simp
      · rw [if_neg c, told_out (by omega)]
        first | done | simp

theorem ref_add {a b : Int} (ha : I64 a) (hb : I64 b) : lombardref01_Add.f a b = some (told (a + b)) := by
  obtain ⟨a0, a1⟩ := ha
  obtain ⟨b0, b1⟩ := hb
  unfold lombardref01_Add.f
  by_cases c : b > 0
  · rw [if_pos c, w64 (n := 9223372036854775807 - b) (by omega) (by omega)]
    by_cases d : a > 9223372036854775807 - b
    · rw [if_pos d, told_out (by omega)]
    · rw [if_neg d, if_neg (by omega), told_in (by omega) (by omega), w64 (by omega) (by omega)]
  · rw [if_neg c]
    by_cases d : b < 0
    · rw [if_pos d, w64 (n := -9223372036854775808 - b) (by omega) (by omega)]
      by_cases e : a < -9223372036854775808 - b
      · rw [if_pos e, told_out (by omega)]
      · rw [if_neg e, told_in (by omega) (by omega), w64 (by omega) (by omega)]
    · rw [if_neg d, told_in (by omega) (by omega), w64 (by omega) (by omega)]

theorem ref_sub {a b : Int} (ha : I64 a) (hb : I64 b) : lombardref01_Sub.f a b = some (told (a - b)) := by
  obtain ⟨a0, a1⟩ := ha
  obtain ⟨b0, b1⟩ := hb
  unfold lombardref01_Sub.f
  by_cases c : b < 0
  · rw [if_pos c, w64 (n := 9223372036854775807 + b) (by omega) (by omega)]
    by_cases d : a > 9223372036854775807 + b
    · rw [if_pos d, told_out (by omega)]
    · rw [if_neg d, if_neg (by omega), told_in (by omega) (by omega), w64 (by omega) (by omega)]
  · rw [if_neg c]
    by_cases d : b > 0
    · rw [if_pos d, w64 (n := -9223372036854775808 + b) (by omega) (by omega)]
      by_cases e : a < -9223372036854775808 + b
      · rw [if_pos e, told_out (by omega)]
      · rw [if_neg e, told_in (by omega) (by omega), w64 (by omega) (by omega)]
    · rw [if_neg d, told_in (by omega) (by omega), w64 (by omega) (by omega)]

theorem ref_neg {a : Int} (ha : I64 a) : lombardref01_Neg.f a = some (told (-a)) := by
  unfold lombardref01_Neg.f
  rw [ref_sub ⟨by omega, by omega⟩ ha]
  simp

/-- a product that went round, divided, is not the factor -/
theorem went {a b : Int} (ha : I64 a) (hb : I64 b) (h0 : a ≠ 0) (h1 : b ≠ 0) (h2 : a ≠ -1) (h3 : b ≠ -1) : (wrap64 (Int.tdiv (wrap64 (a * b)) b) = a) ↔ (-9223372036854775808 ≤ a * b ∧ a * b ≤ 9223372036854775807) := by
  have hm := mul_i64 ha hb
  obtain ⟨a0, a1⟩ := ha
  obtain ⟨b0, b1⟩ := hb
  have t := Int.tmod_add_mul_tdiv (wrap64 (a * b)) b
  have t1 : (Int.tmod (wrap64 (a * b)) b).natAbs < b.natAbs := by
    rw [Int.natAbs_tmod]
    exact Nat.mod_lt _ (by omega)
  have w : ∃ j : Int, wrap64 (a * b) = a * b - j * 18446744073709551616 := by
    unfold wrap64
    exact ⟨(a * b + 9223372036854775808) / 18446744073709551616, by omega⟩
  have w0 : -9223372036854775808 ≤ wrap64 (a * b) ∧ wrap64 (a * b) ≤ 9223372036854775807 := by
    unfold wrap64
    omega
  have t2 : -9223372036854775808 ≤ Int.tdiv (wrap64 (a * b)) b ∧ Int.tdiv (wrap64 (a * b)) b ≤ 9223372036854775807 := by
    by_cases e : b = 1
    · rw [e, Int.tdiv_one, ← e]
      exact w0
    · have t2 : (Int.tdiv (wrap64 (a * b)) b).natAbs ≤ (wrap64 (a * b)).natAbs / 2 := by
        rw [Int.natAbs_tdiv]
        exact Nat.div_le_div_left (show 2 ≤ b.natAbs by omega) (by omega)
      omega
  obtain ⟨j, hj⟩ := w
  generalize Int.tdiv (wrap64 (a * b)) b = q at *
  generalize Int.tmod (wrap64 (a * b)) b = r at *
  rw [w64 (n := q) (by omega) (by omega)]
  constructor
  · intro e
    subst e
    rw [Int.mul_comm] at t
    rw [hj] at t w0
    generalize q * b = m at *
    omega
  · intro e
    have f : wrap64 (a * b) = a * b := w64 e.1 e.2
    rw [f] at t
    have g : b * (q - a) = -r := by rw [Int.mul_sub, Int.mul_comm b a]; omega
    have n := congrArg Int.natAbs g
    rw [Int.natAbs_mul, Int.natAbs_neg] at n
    have z : (q - a).natAbs = 0 := by
      rcases Nat.eq_zero_or_pos (q - a).natAbs with h | h
      · exact h
      · have := Nat.mul_le_mul_left b.natAbs h
        omega
    omega

theorem ref_mul {a b : Int} (ha : I64 a) (hb : I64 b) {k : Nat} (hk : 1 ≤ k) : lombardref01_Mul.f k a b = some (told (a * b)) := by
  obtain ⟨k, rfl⟩ : ∃ m, k = m + 1 := ⟨k - 1, by omega⟩
  unfold lombardref01_Mul.f
  by_cases c0 : a = 0
  · rw [if_pos c0]
    subst c0
    simp only [lombardref01_Mul.j0, if_true, Int.zero_mul]
    rfl
  rw [if_neg c0]
  by_cases c1 : b = 0
  · subst c1
    simp only [lombardref01_Mul.j0, beq_self_eq_true, if_true, Int.mul_zero]
    rfl
  rw [show (b == 0) = false from beq_eq_false_iff_ne.2 c1]
  simp only [lombardref01_Mul.j0, Bool.false_eq_true, if_false]
  by_cases c2 : a = -1
  · rw [if_pos c2, ref_neg hb]
    subst c2
    simp
  rw [if_neg c2]
  by_cases c3 : b = -1
  · rw [if_pos c3, ref_neg ha]
    subst c3
    simp
  rw [if_neg c3, if_neg c1]
  have := went ha hb c0 c1 c2 c3
  by_cases c : -9223372036854775808 ≤ a * b ∧ a * b ≤ 9223372036854775807
  · rw [if_pos (this.2 c), told_in c.1 c.2, w64 c.1 c.2]
  · rw [if_neg (fun h => c (this.1 h)), told_out (by omega)]

theorem may (n : Int) : money_May.f n = some (decide (-10000000000000 ≤ n ∧ n ≤ 10000000000000)) := by
  unfold money_May.f
  split
  · congr 1
    rw [decide_eq_decide]
    omega
  · rw [decide_eq_false (by omega)]
theorem ref_may (n : Int) : lombardref01_May.f n = some (decide (-10000000000000 ≤ n ∧ n ≤ 10000000000000)) := by
  unfold lombardref01_May.f
  split
  · congr 1
    rw [decide_eq_decide]
    omega
  · rw [decide_eq_false (by omega)]
end Go.Proofs.Ytohbdjfabghagaa.XMoney
end

section
namespace Go.Proofs.Ytohbdjfabghagaa.XSum
set_option linter.unusedVariables false
set_option linter.unusedSimpArgs false
open Go.RowKit Go.Proofs.Ytohbdjfabghagaa.S Go.Proofs.Ytohbdjfabghagaa.XNum Go.Proofs.Ytohbdjfabghagaa.XBits Go.Proofs.Ytohbdjfabghagaa.XWide Go.Proofs.Ytohbdjfabghagaa.XMoney Go.Proofs.YtohbdjfabghagaaW.PrintWords

/-- all together -/
def tot : List Int → Int
  | [] => 0
  | x :: l => x + tot l
theorem tot_append (a b : List Int) : tot (a ++ b) = tot a + tot b := by
  induction a with
  | nil => simp [tot]
  | cons x a ih => simp only [List.cons_append, tot, ih]; omega
theorem rd_lt {l : List Int} {i : Nat} (h : i < l.length) : rd l (i : Int) = l[i] := by
  unfold rd
  simp [h]
theorem tot_take {l : List Int} {i : Nat} (h : i < l.length) : tot (l.take (i + 1)) = tot (l.take i) + l[i] := by
  rw [List.take_add_one, List.getElem?_eq_getElem h, tot_append]
  simp [tot]

theorem sum_l0 {l : List Int} (hl : ∀ x ∈ l, I64 x) (hn : l.length ≤ 1099511627776) : ∀ (d i : Nat) (lo hi : Int) (k : Nat), i + d = l.length → d + 1 ≤ k → 0 ≤ lo → lo < 18446744073709551616 → -(i : Int) ≤ hi → hi ≤ i →
    hi * 18446744073709551616 + lo = tot (l.take i) → money_Sum.l0 k lo hi l l.length i = some (told (tot l)) := by
  intro d
  induction d with
  | zero =>
    intro i lo hi k hi' hk l0 l1 h0 h1 e
    obtain ⟨k, rfl⟩ : ∃ m, k = m + 1 := ⟨k - 1, by omega⟩
    rw [List.take_of_length_le (by omega)] at e
    simp only [money_Sum.l0]
    rw [if_neg (by omega), told_f, ← e]
    simp only [Option.bind_some]
    by_cases c : -9223372036854775808 ≤ hi * 18446744073709551616 + lo ∧ hi * 18446744073709551616 + lo ≤ 9223372036854775807
    · rw [told_in c.1 c.2, if_pos (by rw [beq_iff_eq]; unfold wrap64; omega)]
      congr 2
      unfold wrap64
      omega
    · rw [told_out (by omega), if_neg (by rw [beq_iff_eq]; unfold wrap64; omega)]
  | succ d ih =>
    intro i lo hi k hi' hk l0 l1 h0 h1 e
    obtain ⟨k, rfl⟩ : ∃ m, k = m + 1 := ⟨k - 1, by omega⟩
    have hlt : i < l.length := by omega
    obtain ⟨x0, x1⟩ := hl l[i] (List.getElem_mem hlt)
    simp only [money_Sum.l0]
    rw [if_pos (by omega), if_pos (by omega), if_pos (by omega), if_pos l0, rd_lt hlt, if_pos (by rw [wu]; omega), w64 (n := (i : Int) + 1) (by omega) (by omega)]
    have c0 : 0 ≤ XWalk.c64 lo (IntKind.u64.wrap l[i]) 0 ∧ XWalk.c64 lo (IntKind.u64.wrap l[i]) 0 ≤ 1 := by
      rw [wu]; unfold XWalk.c64; omega
    have s0 : 0 ≤ XWalk.s64 lo (IntKind.u64.wrap l[i]) 0 ∧ XWalk.s64 lo (IntKind.u64.wrap l[i]) 0 < 18446744073709551616 := by
      unfold XWalk.s64; omega
    have e0 : XWalk.c64 lo (IntKind.u64.wrap l[i]) 0 * 18446744073709551616 + XWalk.s64 lo (IntKind.u64.wrap l[i]) 0 = lo + l[i] - l[i] / 9223372036854775808 * 18446744073709551616 := by
      rw [wu]; unfold XWalk.c64 XWalk.s64; omega
    generalize XWalk.c64 lo (IntKind.u64.wrap l[i]) 0 = c at *
    generalize XWalk.s64 lo (IntKind.u64.wrap l[i]) 0 = s at *
    have d0 : -1 ≤ l[i] / 9223372036854775808 ∧ l[i] / 9223372036854775808 ≤ 0 := by omega
    rw [w64 (n := c) (by omega) (by omega), w64 (n := hi + l[i] / 9223372036854775808) (by omega) (by omega), w64 (n := hi + l[i] / 9223372036854775808 + c) (by omega) (by omega)]
    refine ih (i + 1) _ _ k (by omega) (by omega) s0.1 s0.2 (by omega) (by omega) ?_
    rw [tot_take hlt, ← e]
    omega

theorem sum {l : List Int} (hl : ∀ x ∈ l, I64 x) (hn : l.length ≤ 1099511627776) {k : Nat} (hk : l.length + 1 ≤ k) : money_Sum.f k l = some (told (tot l)) := by
  unfold money_Sum.f
  exact sum_l0 hl hn l.length 0 0 0 k (by omega) hk (by omega) (by omega) (by omega) (by omega) (by simp [tot])
end Go.Proofs.Ytohbdjfabghagaa.XSum
end

section
namespace Go.Proofs.Ytohbdjfabghagaa.XSplit
set_option linter.unusedVariables false
set_option linter.unusedSimpArgs false
open Go.RowKit Go.Proofs.Ytohbdjfabghagaa.S Go.Proofs.Ytohbdjfabghagaa.XNum Go.Proofs.Ytohbdjfabghagaa.XBits Go.Proofs.Ytohbdjfabghagaa.XWide Go.Proofs.Ytohbdjfabghagaa.XMoney Go.Proofs.Ytohbdjfabghagaa.XSum Go.Proofs.YtohbdjfabghagaaW.PrintWords

/-- what is left over goes to the first weights that aren't 0, one to each -/
def dist : List Int → List Int → Int → List Int
  | w :: ws, q :: qs, L => if 0 < w ∧ 0 < L then (q + 1) :: dist ws qs (L - 1) else q :: dist ws qs L
  | _, qs, _ => qs
/-- how many weights aren't 0 -/
def pos : List Int → Int
  | [] => 0
  | w :: ws => (if 0 < w then 1 else 0) + pos ws
theorem pos_nn (l : List Int) : 0 ≤ pos l := by
  induction l with
  | nil => simp [pos]
  | cons x l ih => unfold pos; split <;> omega
theorem dist_zero (ws qs : List Int) : dist ws qs 0 = qs := by
  induction ws generalizing qs with
  | nil => unfold dist; rfl
  | cons w ws ih =>
    cases qs with
    | nil => unfold dist; rfl
    | cons q qs => unfold dist; rw [if_neg (by omega), ih]
def may (n : Int) : Prop := -10000000000000 ≤ n ∧ n ≤ 10000000000000
instance (n : Int) : Decidable (may n) := inferInstanceAs (Decidable (_ ∧ _))
def okw (w : Int) : Prop := 0 ≤ w ∧ w ≤ 10000000000000
instance (w : Int) : Decidable (okw w) := inferInstanceAs (Decidable (_ ∧ _))
def size (n : Int) : Int := if n < 0 then -n else n
def one (n : Int) : Int := if n < 0 then -1 else 1
theorem one_or (n : Int) : one n = 1 ∨ one n = -1 := by unfold one; split <;> simp
theorem one_size (n : Int) : one n * size n = n := by unfold one size; split <;> omega
def quos (n : Int) (ws : List Int) (S : Int) : List Int := ws.map fun w => size n * w / S
def good (n : Int) (ws : List Int) : Prop := ws.length ≠ 0 ∧ ws.length ≤ 600 ∧ may n ∧ (∀ w ∈ ws, okw w) ∧ tot ws ≠ 0
instance (n : Int) (ws : List Int) : Decidable (good n ws) := inferInstanceAs (Decidable (_ ∧ _))
/-- the parts -/
def parts (n : Int) (ws : List Int) : List Int := (dist ws (quos n ws (tot ws)) (size n - tot (quos n ws (tot ws)))).map (one n * ·)
def splitS (n : Int) (ws : List Int) : List Int × Int := if good n ws then (parts n ws, 0) else ([], 2)

theorem tot_nn {l : List Int} (h : ∀ w ∈ l, okw w) : 0 ≤ tot l := by
  induction l with
  | nil => simp [tot]
  | cons x l ih =>
    have := h x (by simp)
    have := ih fun w hw => h w (by simp [hw])
    unfold okw at *
    unfold tot
    omega
theorem tot_le {l : List Int} (h : ∀ w ∈ l, okw w) : tot l ≤ 10000000000000 * l.length := by
  induction l with
  | nil => simp [tot]
  | cons x l ih =>
    have := h x (by simp)
    have := ih fun w hw => h w (by simp [hw])
    unfold okw at *
    unfold tot
    rw [List.length_cons]
    omega
theorem mem_le {l : List Int} (h : ∀ w ∈ l, okw w) {w : Int} (hw : w ∈ l) : w ≤ tot l := by
  induction l with
  | nil => cases hw
  | cons x l ih =>
    have a := h x (by simp)
    have b := fun w hw => h w (List.mem_cons_of_mem x hw)
    have c := tot_nn b
    unfold okw at a
    unfold tot
    rcases List.mem_cons.1 hw with rfl | hw
    · omega
    · have := ih b hw
      omega
theorem quo_bd {n w S : Int} (hn : may n) (hw : okw w) (hS : 0 < S) (hwS : w ≤ S) : 0 ≤ size n * w / S ∧ size n * w / S ≤ size n := by
  have a : 0 ≤ size n := by unfold size; split <;> omega
  have b : 0 ≤ size n * w := Int.mul_nonneg a hw.1
  refine ⟨Int.ediv_nonneg b (by omega), ?_⟩
  have c : size n * w ≤ size n * S := Int.mul_le_mul_of_nonneg_left hwS a
  exact Int.ediv_le_of_le_mul hS c
/-- what is left over is no less than 0, and no more than there are weights that aren't 0 -/
theorem over_bd {n S : Int} (hS : 0 < S) {l : List Int} (h : ∀ w ∈ l, okw w) :
    S * tot (quos n l S) ≤ size n * tot l ∧ size n * tot l ≤ S * tot (quos n l S) + S * pos l := by
  induction l with
  | nil => simp [quos, tot, pos]
  | cons x l ih =>
    have a := h x (by simp)
    obtain ⟨i1, i2⟩ := ih fun w hw => h w (List.mem_cons_of_mem x hw)
    unfold quos at *
    simp only [List.map_cons, tot, pos]
    have d := Int.mul_ediv_add_emod (size n * x) S
    have d0 := Int.emod_nonneg (size n * x) (show S ≠ 0 by omega)
    have d1 := Int.emod_lt_of_pos (size n * x) hS
    have e : x = 0 → size n * x = 0 ∧ size n * x / S = 0 := by
      intro hx
      subst hx
      simp
    rw [Int.mul_add, Int.mul_add, Int.mul_add]
    obtain ⟨a0, _⟩ := a
    generalize size n * x / S = q at *
    generalize size n * x % S = r at *
    by_cases c : 0 < x
    · rw [if_pos c, Int.mul_one]
      omega
    · obtain ⟨e1, e2⟩ := e (by omega)
      rw [if_neg c, e1, e2, Int.mul_zero]
      omega
theorem left_bd {n : Int} {ws : List Int} (h : good n ws) : 0 ≤ size n - tot (quos n ws (tot ws)) ∧ size n - tot (quos n ws (tot ws)) ≤ pos ws ∧ 0 ≤ tot (quos n ws (tot ws)) := by
  obtain ⟨_, _, _, hw, h0⟩ := h
  have hS : 0 < tot ws := by have := tot_nn hw; omega
  obtain ⟨a, b⟩ := over_bd (n := n) hS hw
  generalize hT : tot (quos n ws (tot ws)) = T at *
  have nn : 0 ≤ T := by
    rw [← hT]
    have : ∀ l : List Int, (∀ w ∈ l, okw w) → 0 ≤ tot (quos n l (tot ws)) := by
      intro l
      induction l with
      | nil => intro _; simp [quos, tot]
      | cons x l ih =>
        intro hl
        have := ih fun w hw => hl w (List.mem_cons_of_mem x hw)
        have s0 : 0 ≤ size n := by unfold size; split <;> omega
        have : 0 ≤ size n * x / tot ws := Int.ediv_nonneg (Int.mul_nonneg s0 (hl x (by simp)).1) (by omega)
        unfold quos at *
        simp only [List.map_cons, tot]
        omega
    exact this ws hw
  rw [Int.mul_comm (size n)] at a b
  refine ⟨?_, ?_, nn⟩
  · have := Int.le_of_mul_le_mul_left a hS
    omega
  · rw [← Int.mul_add] at b
    have := Int.le_of_mul_le_mul_left b hS
    omega

-- ------------------------------------------------ rows, by what lies ahead and behind
theorem rd_mid (A : List Int) (b : Int) (B : List Int) : rd (A ++ b :: B) (A.length : Int) = b := by
  unfold rd
  simp
theorem set_mid (A : List Int) (b v : Int) (B : List Int) : (A ++ b :: B).set ((A.length : Int)).toNat v = A ++ v :: B := by
  simp

-- ------------------------------------------------ package money
theorem pos_le (l : List Int) : pos l ≤ l.length := by
  induction l with
  | nil => simp [pos]
  | cons x l ih => unfold pos; rw [List.length_cons]; split <;> omega
theorem step_v {s b : Int} (hs : s = 1 ∨ s = -1) (h0 : 0 ≤ b) (h1 : b ≤ 10000000000000) : wrap64 (s * b + s) = s * (b + 1) := by
  rcases hs with rfl | rfl <;> (rw [w64 (by omega) (by omega)]; omega)
theorem step_u {s L : Int} (hs : s = 1 ∨ s = -1) (h0 : 0 ≤ L) (h1 : L ≤ 600) : wrap64 (s * L - s) = s * (L - 1) := by
  rcases hs with rfl | rfl <;> (rw [w64 (by omega) (by omega)]; omega)
theorem next_at {a n : Nat} (h : a + 1 < n) (hn : n ≤ 600) : Int.tmod (wrap64 ((a : Int) + 1)) (n : Int) = ((a + 1 : Nat) : Int) := by
  rw [w64 (by omega) (by omega), tm_nn (by omega), Int.emod_eq_of_lt (by omega) (by omega)]
  omega
theorem l2_stop {s : Int} {ws : List Int} (W A B : List Int) (j : Int) {k : Nat} (hk : 1 ≤ k) : money_Split.l2 k ws s (A ++ B.map (s * ·)) (s * 0) j = some (A ++ (dist W B 0).map (s * ·), 0) := by
  obtain ⟨k, rfl⟩ : ∃ m, k = m + 1 := ⟨k - 1, by omega⟩
  rw [money_Split.l2, if_pos (Int.mul_zero s), dist_zero]
/-- one place: one goes to it, or none -/
theorem l2_step {s : Int} (hs : s = 1 ∨ s = -1) {w b L : Int} {V W A B : List Int} (hl : A.length + W.length + 1 ≤ 600) (e2 : V.length = A.length) (e3 : W.length = B.length) (h0 : 0 < L) (h1 : L ≤ 600) (hb : 0 ≤ b ∧ b ≤ 10000000000000) (hw : 0 ≤ w) (k : Nat) :
    money_Split.l2 (k + 1) (V ++ w :: W) s (A ++ (b :: B).map (s * ·)) (s * L) A.length =
      if 0 < w then money_Split.l2 k (V ++ w :: W) s ((A ++ [s * (b + 1)]) ++ B.map (s * ·)) (s * (L - 1)) (Int.tmod (wrap64 ((A.length : Int) + 1)) ((V ++ w :: W).length : Int))
      else money_Split.l2 k (V ++ w :: W) s ((A ++ [s * b]) ++ B.map (s * ·)) (s * L) (Int.tmod (wrap64 ((A.length : Int) + 1)) ((V ++ w :: W).length : Int)) := by
  have nz : s * L ≠ 0 := by rcases hs with rfl | rfl <;> omega
  have lv : (V ++ w :: W).length = A.length + W.length + 1 := by simp; omega
  have la : (A ++ (b :: B).map (s * ·)).length = A.length + W.length + 1 := by simp; omega
  have rw1 : rd (V ++ w :: W) (A.length : Int) = w := by rw [← e2]; exact rd_mid V w W
  rw [money_Split.l2, if_neg nz, if_pos (by omega), lv, if_pos (by omega), rw1, la]
  by_cases c : 0 < w
  · rw [if_pos c, if_pos c, if_pos (by omega), if_neg (by omega), List.map_cons, rd_mid, set_mid, step_v hs hb.1 hb.2, step_u hs (by omega) h1]
    simp
  · rw [if_neg c, if_neg c, if_neg (by omega)]
    simp
theorem l2_run {s : Int} (hs : s = 1 ∨ s = -1) : ∀ (W V A B : List Int) (L : Int) (j : Int) (k : Nat), (V ++ W).length ≤ 600 → (∀ w ∈ W, okw w) → V.length = A.length → W.length = B.length → 0 ≤ L → L ≤ pos W →
    (∀ b ∈ B, 0 ≤ b ∧ b ≤ 10000000000000) → (0 < L → j = A.length) → W.length + 1 ≤ k → money_Split.l2 k (V ++ W) s (A ++ B.map (s * ·)) (s * L) j = some (A ++ (dist W B L).map (s * ·), 0) := by
  intro W
  induction W with
  | nil =>
    intro V A B L j k hl h e2 e3 h0 h1 hB hj hk
    have : L = 0 := by unfold pos at h1; omega
    subst this
    exact l2_stop [] A B j (by omega)
  | cons w W ih =>
    intro V A B L j k hl h e2 e3 h0 h1 hB hj hk
    by_cases c : L = 0
    · subst c
      exact l2_stop (w :: W) A B j (by omega)
    obtain ⟨k, rfl⟩ : ∃ m, k = m + 1 := ⟨k - 1, by omega⟩
    cases B with
    | nil => simp at e3
    | cons b B =>
      have hw := h w (by simp)
      have e3' : W.length = B.length := by simpa using e3
      have hp := pos_le (w :: W)
      rw [List.length_append, List.length_cons] at hl
      rw [List.length_cons] at hp hk
      rw [hj (by omega), l2_step hs (by omega) e2 e3' (by omega) (by omega) (hB b (by simp)) hw.1]
      have hlW : 0 < pos W → A.length + 1 < (V ++ w :: W).length := by
        intro hx
        have := pos_le W
        rw [List.length_append, List.length_cons]
        omega
      have hl' : ((V ++ [w]) ++ W).length ≤ 600 := by simp; omega
      have hB' : ∀ x ∈ B, 0 ≤ x ∧ x ≤ 10000000000000 := fun x hx => hB x (List.mem_cons_of_mem b hx)
      have h' : ∀ x ∈ W, okw x := fun x hx => h x (List.mem_cons_of_mem w hx)
      have lv : (V ++ w :: W).length ≤ 600 := by rw [List.length_append, List.length_cons]; omega
      rw [show V ++ w :: W = (V ++ [w]) ++ W by simp] at hlW lv ⊢
      rw [pos] at h1
      by_cases c1 : 0 < w
      · rw [if_pos c1] at h1 ⊢
        rw [ih (V ++ [w]) (A ++ [s * (b + 1)]) B (L - 1) _ k hl' h' (by simp [e2]) e3' (by omega) (by omega) hB' (fun hx => by
          rw [next_at (hlW (by omega)) lv]
          simp) (by omega)]
        rw [dist, if_pos ⟨c1, by omega⟩]
        simp
      · rw [if_neg c1] at h1 ⊢
        rw [ih (V ++ [w]) (A ++ [s * b]) B L _ k hl' h' (by simp [e2]) e3' h0 (by omega) hB' (fun hx => by
          rw [next_at (hlW (by omega)) lv]
          simp) (by omega)]
        rw [dist, if_neg (fun h => c1 h.1)]
        simp

theorem l1_run {n : Int} {ws : List Int} (h : good n ws) : ∀ (W V : List Int) (k : Nat), ws = V ++ W → W.length + ws.length + 40 ≤ k →
    money_Split.l1 k n ws (tot ws) (one n) ((quos n V (tot ws)).map (one n * ·)) (n - one n * tot (quos n V (tot ws))) ws ws.length V.length = some (parts n ws, 0) := by
  have hg := h
  obtain ⟨g1, g2, g3, g4, g5⟩ := h
  have hS : 0 < tot ws := by have := tot_nn g4; omega
  have hS1 := tot_le g4
  have hs := one_or n
  have n0 : 0 ≤ size n := by unfold size; split <;> omega
  have n1 : size n ≤ 10000000000000 := by unfold size; unfold may at g3; split <;> omega
  intro W
  induction W with
  | nil =>
    intro V k e hk
    obtain ⟨k, rfl⟩ : ∃ m, k = m + 1 := ⟨k - 1, by omega⟩
    rw [List.append_nil] at e
    subst e
    simp only [money_Split.l1]
    rw [if_neg (by omega)]
    have e1 : n - one n * tot (quos n ws (tot ws)) = one n * (size n - tot (quos n ws (tot ws))) := by rw [Int.mul_sub, one_size]
    rw [e1]
    have := l2_run hs ws [] [] (quos n ws (tot ws)) (size n - tot (quos n ws (tot ws))) 0 k (by simpa using g2) g4 (by simp) (by simp [quos]) (left_bd hg).1 (left_bd hg).2.1 (by
      intro b hb
      unfold quos at hb
      obtain ⟨w, hw, rfl⟩ := List.mem_map.1 hb
      have := quo_bd g3 (g4 w hw) hS (mem_le g4 hw)
      omega) (by simp) (by omega)
    simpa [parts] using this
  | cons w W ih =>
    intro V k e hk
    obtain ⟨k, rfl⟩ : ∃ m, k = m + 1 := ⟨k - 1, by omega⟩
    have lw : ws.length = V.length + W.length + 1 := by rw [e]; simp; omega
    have hw : w ∈ ws := by rw [e]; simp
    have hok := g4 w hw
    have hok' := hok
    obtain ⟨o0, o1⟩ := hok'
    have qb := quo_bd g3 hok hS (mem_le g4 hw)
    simp only [money_Split.l1]
    rw [if_pos (by omega), if_pos (by omega), if_pos (by omega), show rd ws (V.length : Int) = w by rw [e]; exact rd_mid V w W]
    rw [show money_size_int64.f n = some (size n) from XMoney.size (by unfold may at g3; constructor <;> omega)]
    simp only [Option.bind_some]
    rw [wu_id (n := w) o0 (by omega), mul64 n0 (by omega) o0 (by omega)]
    simp only [Option.bind_some]
    have hm : 0 ≤ size n * w := Int.mul_nonneg n0 o0
    have hm1 : size n * w < 18446744073709551616 * tot ws := by
      have a : size n * w ≤ size n * tot ws := Int.mul_le_mul_of_nonneg_left (mem_le g4 hw) n0
      have b : size n * tot ws < 18446744073709551616 * tot ws := Int.mul_lt_mul_of_pos_right (by omega) hS
      omega
    have hq : size n * w / 18446744073709551616 * 18446744073709551616 + size n * w % 18446744073709551616 = size n * w := by omega
    rw [wu_id (n := tot ws) (by omega) (by omega), div64 (by omega) (by omega) (by omega) (by omega) (by omega) (by omega), hq]
    simp only [Option.bind_some]
    rw [if_pos (by simp [quos]; omega), w64 (n := size n * w / tot ws) (by omega) (by omega)]
    have hT : 0 ≤ tot (quos n V (tot ws)) ∧ tot (quos n V (tot ws)) ≤ 10000000000000 * V.length := by
      have : ∀ x ∈ quos n V (tot ws), okw x := by
        intro b hb
        unfold quos at hb
        obtain ⟨v, hv, rfl⟩ := List.mem_map.1 hb
        have hv' : v ∈ ws := by rw [e]; simp [hv]
        have := quo_bd g3 (g4 v hv') hS (mem_le g4 hv')
        unfold okw
        omega
      refine ⟨tot_nn this, ?_⟩
      have := tot_le this
      simpa [quos] using this
    have e2 : wrap64 (one n * (size n * w / tot ws)) = one n * (size n * w / tot ws) := by
      rcases hs with hs | hs <;> rw [hs] <;> exact w64 (by omega) (by omega)
    have e3 : quos n (V ++ [w]) (tot ws) = quos n V (tot ws) ++ [size n * w / tot ws] := by simp [quos]
    have e4 : wrap64 (n - one n * tot (quos n V (tot ws)) - one n * (size n * w / tot ws)) = n - one n * tot (quos n (V ++ [w]) (tot ws)) := by
      rw [e3, tot_append]
      simp only [tot]
      unfold may at g3
      rcases hs with hs | hs <;> rw [hs] <;> (rw [w64 (by omega) (by omega)]; omega)
    rw [e2, e4, w64 (n := (V.length : Int) + 1) (by omega) (by omega)]
    have := ih (V ++ [w]) k (by rw [e]; simp) (by simp at hk; omega)
    rw [e3] at this ⊢
    simpa using this

theorem l0_run {n : Int} {ws : List Int} (hl : ws.length ≤ 600) (hn : ws.length ≠ 0) (hm : may n) : ∀ (W V : List Int) (k : Nat), ws = V ++ W → (∀ v ∈ V, okw v) → W.length + 2 * ws.length + 50 ≤ k →
    money_Split.l0 k n ws (tot V) ws ws.length V.length = some (splitS n ws) := by
  intro W
  induction W with
  | nil =>
    intro V k e hV hk
    obtain ⟨k, rfl⟩ : ∃ m, k = m + 2 := ⟨k - 2, by omega⟩
    rw [List.append_nil] at e
    subst e
    simp only [money_Split.l0]
    rw [if_neg (by omega)]
    by_cases c : tot ws = 0
    · rw [if_pos c]
      unfold splitS
      rw [if_neg (by unfold good; omega)]
    · rw [if_neg c]
      have g : good n ws := ⟨hn, hl, hm, hV, c⟩
      have : ∀ s, s = one n → money_Split.j2 (k + 1) n ws (tot ws) s = some (splitS n ws) := by
        intro s hs
        subst hs
        simp only [money_Split.j2]
        unfold splitS
        rw [if_pos g]
        have := l1_run g ws [] k (by simp) (by omega)
        simpa [quos, tot] using this
      unfold one at this
      by_cases d : n < 0
      · rw [if_pos d]
        exact this _ (by rw [if_pos d])
      · rw [if_neg d]
        exact this _ (by rw [if_neg d])
  | cons w W ih =>
    intro V k e hV hk
    obtain ⟨k, rfl⟩ : ∃ m, k = m + 1 := ⟨k - 1, by omega⟩
    have lw : ws.length = V.length + W.length + 1 := by rw [e]; simp; omega
    have hw : w ∈ ws := by rw [e]; simp
    have no : ¬okw w → splitS n ws = ([], 2) := by
      intro h
      unfold splitS
      rw [if_neg (fun g => h (g.2.2.2.1 w hw))]
    simp only [money_Split.l0]
    rw [if_pos (by omega), if_pos (by omega), if_pos (by omega), show rd ws (V.length : Int) = w by rw [e]; exact rd_mid V w W]
    by_cases c : w < 0
    · rw [if_pos c, no (by unfold okw; omega)]
    · rw [if_neg c, XMoney.may]
      simp only [Option.bind_some]
      by_cases d : w ≤ 10000000000000
      · rw [if_pos (by rw [decide_eq_true_iff]; omega), w64 (n := (V.length : Int) + 1) (by omega) (by omega)]
        have t := tot_le hV
        have t0 := tot_nn hV
        rw [w64 (n := tot V + w) (by omega) (by omega)]
        have := ih (V ++ [w]) k (by rw [e]; simp) (by
          intro v hv
          rcases List.mem_append.1 hv with hv | hv
          · exact hV v hv
          · rw [List.mem_singleton.1 hv]; unfold okw; omega) (by simp at hk; omega)
        rw [tot_append] at this
        simpa [tot] using this
      · rw [if_neg (by rw [decide_eq_true_iff]; omega), no (by unfold okw; omega)]

theorem split {n : Int} {ws : List Int} {k : Nat} (hk : 3 * ws.length + 60 ≤ k) : money_Split.f k n ws = some (splitS n ws) := by
  obtain ⟨k, rfl⟩ : ∃ m, k = m + 1 := ⟨k - 1, by omega⟩
  unfold money_Split.f
  have no : ¬(ws.length ≠ 0 ∧ ws.length ≤ 600 ∧ may n) → splitS n ws = ([], 2) := by
    intro h
    unfold splitS
    rw [if_neg (fun g => h ⟨g.1, g.2.1, g.2.2.1⟩)]
  by_cases c : (ws.length : Int) = 0
  · rw [if_pos c, no (by omega)]
    simp only [money_Split.j0, if_true]
  rw [if_neg c]
  by_cases d : (ws.length : Int) > 600
  · rw [if_pos d, no (by omega)]
    simp only [money_Split.j0, if_true]
  rw [if_neg d, XMoney.may]
  simp only [Option.bind_some]
  by_cases e : may n
  · unfold may at e
    rw [decide_eq_true e]
    simp only [money_Split.j0, Bool.not_true, Bool.false_eq_true, if_false]
    have := l0_run (n := n) (ws := ws) (by omega) (by omega) e ws [] k (by simp) (by simp) (by omega)
    simpa [tot] using this
  · rw [no (fun h => e h.2.2)]
    unfold may at e
    rw [decide_eq_false e]
    simp only [money_Split.j0, Bool.not_false, if_true]
end Go.Proofs.Ytohbdjfabghagaa.XSplit
end

section
namespace Go.Proofs.Ytohbdjfabghagaa.MoneyAlive
set_option linter.unusedVariables false
set_option linter.unusedSimpArgs false
open Go.RowKit Go.Proofs.Ytohbdjfabghagaa.S Go.Proofs.Ytohbdjfabghagaa.XNum Go.Proofs.Ytohbdjfabghagaa.XMoney Go.Proofs.Ytohbdjfabghagaa.XSum Go.Proofs.Ytohbdjfabghagaa.XSplit Go.Proofs.YtohbdjfabghagaaW.PrintWords

theorem same_l0 {a b : List Int} (hl : a.length ≤ 1099511627776) : ∀ (A B C D : List Int) (k : Nat), a = C ++ A → b = D ++ B → C = D → A.length = B.length → A.length + 1 ≤ k →
    lombardref01_Same.l0 k a b a.length C.length = some (decide (A = B)) := by
  intro A
  induction A with
  | nil =>
    intro B C D k e1 e2 e3 e4 hk
    obtain ⟨k, rfl⟩ : ∃ m, k = m + 1 := ⟨k - 1, by omega⟩
    have : B = [] := List.eq_nil_of_length_eq_zero e4.symm
    subst this
    simp only [lombardref01_Same.l0]
    rw [if_neg (by rw [e1]; simp)]
    rfl
  | cons x A ih =>
    intro B C D k e1 e2 e3 e4 hk
    obtain ⟨k, rfl⟩ : ∃ m, k = m + 1 := ⟨k - 1, by omega⟩
    cases B with
    | nil => simp at e4
    | cons y B =>
      have la : a.length = C.length + A.length + 1 := by rw [e1]; simp; omega
      have lb : b.length = C.length + A.length + 1 := by rw [e2, ← e3]; simp at e4 ⊢; omega
      simp only [lombardref01_Same.l0]
      rw [if_pos (by omega), if_pos (by omega), if_pos (by omega), if_pos (by omega), show rd a (C.length : Int) = x by rw [e1]; exact rd_mid C x A, show rd b (C.length : Int) = y by rw [e2, ← e3]; exact rd_mid C y B]
      by_cases c : x = y
      · rw [if_pos c, w64 (by omega) (by omega)]
        have := ih B (C ++ [x]) (D ++ [y]) k (by rw [e1]; simp) (by rw [e2]; simp) (by rw [e3, c]) (by simpa using e4) (by simp at hk; omega)
        simp only [List.length_append, List.length_cons, List.length_nil] at this
        rw [show (C.length : Int) + 1 = ((C.length + (0 + 1) : Nat) : Int) by omega, this, c]
        simp
      · rw [if_neg c, decide_eq_false (by simp [c])]

theorem same {a b : List Int} (hl : a.length ≤ 1099511627776) {k : Nat} (hk : a.length + 1 ≤ k) : lombardref01_Same.f k a b = some (decide (a = b)) := by
  unfold lombardref01_Same.f
  by_cases c : (a.length : Int) = (b.length : Int)
  · rw [if_pos c]
    exact same_l0 hl a b [] [] k (by simp) (by simp) rfl (by omega) hk
  · rw [if_neg c, decide_eq_false]
    intro e
    rw [e] at c
    exact c rfl

theorem alive {k : Nat} (hk : 80 ≤ k) : lombardlaw01_alive.f k = some true := by
  unfold lombardlaw01_alive.f
  rw [split (by simp; omega), add ⟨by omega, by omega⟩ ⟨by omega, by omega⟩, sum (by decide) (by simp) (by simp; omega)]
  rw [show splitS 10 [1, 1, 1] = ([4, 3, 3], 0) by decide]
  simp only [Option.bind_some]
  rw [same (by simp) (by simp; omega)]
  decide
end Go.Proofs.Ytohbdjfabghagaa.MoneyAlive
end

section
namespace Go.Proofs.Ytohbdjfabghagaa.XRefSplit
set_option linter.unusedVariables false
set_option linter.unusedSimpArgs false
open Go.RowKit Go.Proofs.Ytohbdjfabghagaa.S Go.Proofs.Ytohbdjfabghagaa.XNum Go.Proofs.Ytohbdjfabghagaa.XBits Go.Proofs.Ytohbdjfabghagaa.XSum Go.Proofs.Ytohbdjfabghagaa.XSplit Go.Proofs.YtohbdjfabghagaaW.PrintWords

theorem and1i {x : Int} (h0 : 0 ≤ x) (h1 : x ≤ 9223372036854775807) : Go.bits .and .i64 x 1 = x % 2 :=
  bits_mask .i64 63 (by decide) (fun n h0 h1 => by
    simp only [IntKind.wrap, IntKind.bits, IntKind.signed, if_true]
    simp at h1 ⊢
    omega) 1 (by decide) x h0 (by simp; omega)
theorem half_pow {n : Int} (b : Nat) : n / 2 ^ (b + 1) = n / 2 ^ b / 2 := by
  rw [Int.ediv_ediv_of_nonneg (Int.pow_nonneg (by decide)), Int.pow_succ]

theorem part_l0 {n w S : Int} (n0 : 0 ≤ n) (n1 : n ≤ 10000000000000) (w0 : 0 ≤ w) (wS : w ≤ S) (S0 : 0 < S) (S1 : S ≤ 6000000000000000) : ∀ (b : Nat) (q r : Int) (k : Nat), b ≤ 63 → n / 2 ^ b * w = q * S + r → 0 ≤ r → r < S → 0 ≤ q → 2 * b + 1 ≤ k →
    lombardref01_part.l0 k n w S q r ((b : Int) - 1) = some (n * w / S) := by
  intro b
  induction b with
  | zero =>
    intro q r k _ e r0 r1 q0 hk
    obtain ⟨k, rfl⟩ : ∃ m, k = m + 1 := ⟨k - 1, by omega⟩
    rw [Int.pow_zero, Int.ediv_one] at e
    rw [lombardref01_part.l0, if_neg (by omega), (Knuth.quot_uniq S0 (show n * w = S * q + r by rw [Int.mul_comm S]; exact e) r0 r1).1]
  | succ b ih =>
    intro q r k hb e r0 r1 q0 hk
    obtain ⟨k, rfl⟩ : ∃ m, k = m + 2 := ⟨k - 2, by omega⟩
    rw [half_pow] at e
    have P : (0 : Int) < 2 ^ b := Int.pow_pos (by decide)
    have x0 : 0 ≤ n / 2 ^ b := Int.ediv_nonneg n0 (by omega)
    have x1 : n / 2 ^ b ≤ n := Int.ediv_le_self _ n0
    have ih' := ih
    have hx : shr .i64 n (IntKind.u64.wrap (b : Int)) = n / 2 ^ b := by
      rw [wu_id (by omega) (by omega)]
      unfold shr
      rw [show min ((b : Int)).toNat IntKind.i64.bits = b by show min ((b : Int)).toNat 64 = b; omega]
    generalize n / 2 ^ b = x at *
    have m0 : 0 ≤ x / 2 := by omega
    have qm : q ≤ x / 2 := by
      have a : x / 2 * w ≤ x / 2 * S := Int.mul_le_mul_of_nonneg_left wS m0
      exact Int.le_of_mul_le_mul_right (show q * S ≤ x / 2 * S by omega) S0
    have fin : ∀ q1 r1 : Int, 2 * (x / 2 * w) = q1 * S + r1 → 0 ≤ r1 → r1 < S → 0 ≤ q1 → q1 ≤ x → lombardref01_part.j1 (k + 1) n w S q1 r1 (b : Int) = some (n * w / S) := by
      intro q1 r1 e1 a0 a1 p0 p1
      rw [lombardref01_part.j1, if_pos (by rw [wu_id (by omega) (by omega)]; omega), hx, and1i x0 (by omega)]
      rw [w64 (n := (b : Int) - 1) (by omega) (by omega)]
      by_cases c : x % 2 = 1
      · have d := Int.mul_ediv_add_emod w S
        have d0 := Int.emod_nonneg w (show S ≠ 0 by omega)
        have d1 := Int.emod_lt_of_pos w S0
        have d2 : 0 ≤ w / S := Int.ediv_nonneg w0 (by omega)
        have d3 : w / S ≤ 1 := by
          rcases Int.lt_or_le 1 (w / S) with z | z
          · have : S * 2 ≤ S * (w / S) := Int.mul_le_mul_of_nonneg_left (by omega) (by omega)
            omega
          · exact z
        have xe : x * w = 2 * (x / 2 * w) + w := by
          have : x * w = (2 * (x / 2) + 1) * w := by congr 1; omega
          rw [this]
          grind
        rw [Int.mul_comm] at d
        rw [if_pos c, if_neg (by omega), td_nn w0, tm_nn w0, w64 (n := w / S) (by omega) (by omega), w64 (n := q1 + w / S) (by omega) (by omega), w64 (n := r1 + w % S) (by omega) (by omega)]
        by_cases f : r1 + w % S ≥ S
        · rw [if_pos f, w64 (n := q1 + w / S + 1) (by omega) (by omega), w64 (n := r1 + w % S - S) (by omega) (by omega)]
          refine ih' _ _ k (by omega) ?_ (by omega) (by omega) (by omega) (by omega)
          rw [xe, e1, Int.add_mul, Int.add_mul, Int.one_mul]
          omega
        · rw [if_neg f]
          refine ih' _ _ k (by omega) ?_ (by omega) (by omega) (by omega) (by omega)
          rw [xe, e1, Int.add_mul]
          omega
      · rw [if_neg c]
        have xe : x * w = 2 * (x / 2 * w) := by
          have : x * w = (2 * (x / 2)) * w := by congr 1; omega
          rw [this]
          grind
        exact ih' _ _ k (by omega) (by rw [xe]; exact e1) a0 a1 p0 (by omega)
    rw [show ((b + 1 : Nat) : Int) - 1 = (b : Int) by omega, lombardref01_part.l0, if_pos (by omega), w64 (n := r * 2) (by omega) (by omega), w64 (n := q * 2) (by omega) (by omega)]
    by_cases g : r * 2 ≥ S
    · rw [if_pos g, w64 (n := q * 2 + 1) (by omega) (by omega), w64 (n := r * 2 - S) (by omega) (by omega)]
      have e2 : 2 * (x / 2 * w) = (q * 2 + 1) * S + (r * 2 - S) := by
        rw [e, Int.add_mul, Int.one_mul, Int.mul_right_comm]
        omega
      refine fin _ _ e2 (by omega) (by omega) (by omega) ?_
      have a : 2 * (x / 2 * w) ≤ 2 * (x / 2) * S := by
        rw [← Int.mul_assoc]
        exact Int.mul_le_mul_of_nonneg_left wS (by omega)
      have := Int.le_of_mul_le_mul_right (show (q * 2 + 1) * S ≤ 2 * (x / 2) * S by omega) S0
      omega
    · rw [if_neg g]
      have e2 : 2 * (x / 2 * w) = (q * 2) * S + (r * 2) := by
        rw [e, Int.mul_right_comm]
        omega
      exact fin _ _ e2 (by omega) (by omega) (by omega) (by omega)

theorem part {n w S : Int} (hn : may n) (w0 : 0 ≤ w) (wS : w ≤ S) (S0 : 0 < S) (S1 : S ≤ 6000000000000000) {k : Nat} (hk : 140 ≤ k) : lombardref01_part.f k n w S = some (one n * (size n * w / S)) := by
  obtain ⟨k, rfl⟩ : ∃ m, k = m + 2 := ⟨k - 2, by omega⟩
  unfold may at hn
  have run : ∀ (m : Int) (k : Nat), 0 ≤ m → m ≤ 10000000000000 → 130 ≤ k → lombardref01_part.l0 k m w S 0 0 62 = some (m * w / S) := by
    intro m k h0 h1 hk
    have := part_l0 h0 h1 w0 wS S0 S1 63 0 0 k (by omega) (by
      rw [Int.ediv_eq_zero_of_lt h0 (by simp; omega)]
      simp) (by omega) S0 (by omega) (by omega)
    simpa using this
  rw [lombardref01_part.f]
  by_cases c : n < 0
  · rw [if_pos c, w64 (n := -n) (by omega) (by omega), lombardref01_part.f, if_neg (by omega), run (-n) k (by omega) (by omega) (by omega)]
    have s : size n = -n := by unfold size; rw [if_pos c]
    have q0 : 0 ≤ -n * w / S := Int.ediv_nonneg (Int.mul_nonneg (by omega) w0) (by omega)
    have q1 : -n * w / S ≤ -n := Int.ediv_le_of_le_mul S0 (Int.mul_le_mul_of_nonneg_left wS (by omega))
    rw [s]
    simp only [Option.bind_some]
    rw [w64 (by omega) (by omega)]
    unfold one
    rw [if_pos c]
    congr 1
    omega
  · rw [if_neg c, run n (k + 1) (by omega) (by omega) (by omega)]
    have s : size n = n := by unfold size; rw [if_neg c]
    rw [s]
    unfold one
    rw [if_neg c, Int.one_mul]

theorem nx {a : Nat} (h : a ≤ 1000000) : wrap64 ((a : Int) + 1) = ((a + 1 : Nat) : Int) := by
  rw [w64 (by omega) (by omega)]
  omega
theorem put_at (s b v : Int) (A B : List Int) : (A ++ (b :: B).map (s * ·)).set ((A.length : Int)).toNat v = (A ++ [v]) ++ B.map (s * ·) := by
  rw [List.map_cons, set_mid]
  simp
theorem get_at (s b : Int) (A B : List Int) : rd (A ++ (b :: B).map (s * ·)) (A.length : Int) = s * b := by rw [List.map_cons, rd_mid]
/-- one pass over the weights -/
theorem l3_step {s : Int} (hs : s = 1 ∨ s = -1) {w b L : Int} {V W A B : List Int} (hl : A.length + W.length + 1 ≤ 1000) (e2 : V.length = A.length) (e3 : W.length = B.length) (h0 : 0 ≤ L) (h1 : L ≤ 1000) (hb : 0 ≤ b ∧ b ≤ 10000000000000) (hw : 0 ≤ w) (k : Nat) :
    lombardref01_Split.l3 (k + 2) (V ++ w :: W) (A ++ (b :: B).map (s * ·)) (s * L) (V ++ w :: W) (V ++ w :: W).length A.length =
      if 0 < w ∧ 0 < L then lombardref01_Split.l3 k (V ++ w :: W) ((A ++ [s * (b + 1)]) ++ B.map (s * ·)) (s * (L - 1)) (V ++ w :: W) (V ++ w :: W).length (A.length + 1 : Nat)
      else lombardref01_Split.l3 k (V ++ w :: W) ((A ++ [s * b]) ++ B.map (s * ·)) (s * L) (V ++ w :: W) (V ++ w :: W).length (A.length + 1 : Nat) := by
  have lv : (V ++ w :: W).length = A.length + W.length + 1 := by simp; omega
  have la : (A ++ (b :: B).map (s * ·)).length = A.length + W.length + 1 := by simp; omega
  have rw1 : rd (V ++ w :: W) (A.length : Int) = w := by rw [← e2]; exact rd_mid V w W
  have keep : A ++ (b :: B).map (s * ·) = (A ++ [s * b]) ++ B.map (s * ·) := by simp
  have i1 : (A.length : Int) < ((V ++ w :: W).length : Int) := by omega
  have i2 : (A.length : Int) < ((A ++ (b :: B).map (s * ·)).length : Int) := by omega
  have i3 : (0 : Int) ≤ (A.length : Int) := by omega
  have i4 : A.length ≤ 1000000 := by omega
  clear la lv
  rw [lombardref01_Split.l3, if_pos i1, if_pos i3, if_pos i1, rw1]
  clear rw1
  by_cases c : w = 0
  · rw [if_pos c, if_neg (c := 0 < w ∧ 0 < L) (by omega), lombardref01_Split.j6, if_neg (by simp), if_pos c, nx i4, keep]
  · rw [if_neg c]
    rcases hs with rfl | rfl
    · by_cases d : 0 < L
      · rw [if_pos ⟨by omega, d⟩, decide_eq_true (by omega), lombardref01_Split.j6, if_pos rfl, if_pos i3, if_pos i2, get_at, put_at, nx i4, w64 (by omega) (by omega), w64 (by omega) (by omega)]
        congr 1
        · congr 3
          omega
        · omega
      · rw [if_neg (c := 0 < w ∧ 0 < L) (by omega), decide_eq_false (by omega), lombardref01_Split.j6, if_neg (by simp), if_neg c, if_neg (by omega), nx i4, keep]
    · by_cases d : 0 < L
      · rw [if_pos ⟨by omega, d⟩, decide_eq_false (by omega), lombardref01_Split.j6, if_neg (by simp), if_neg c, if_pos (by omega), if_pos i3, if_pos i2, get_at, put_at, nx i4, w64 (by omega) (by omega), w64 (by omega) (by omega)]
        congr 1
        · congr 3
          omega
        · omega
      · rw [if_neg (c := 0 < w ∧ 0 < L) (by omega), decide_eq_false (by omega), lombardref01_Split.j6, if_neg (by simp), if_neg c, if_neg (by omega), nx i4, keep]
theorem l3_run {s : Int} (hs : s = 1 ∨ s = -1) : ∀ (W V A B : List Int) (L : Int) (k : Nat), (V ++ W).length ≤ 1000 → (∀ w ∈ W, okw w) → V.length = A.length → W.length = B.length → 0 ≤ L → L ≤ pos W →
    (∀ b ∈ B, 0 ≤ b ∧ b ≤ 10000000000000) → 2 * W.length + 2 ≤ k → lombardref01_Split.l3 k (V ++ W) (A ++ B.map (s * ·)) (s * L) (V ++ W) (V ++ W).length V.length = some (A ++ (dist W B L).map (s * ·), 0) := by
  intro W
  induction W with
  | nil =>
    intro V A B L k hl h e2 e3 h0 h1 hB hk
    have : L = 0 := by unfold pos at h1; omega
    subst this
    obtain ⟨k, rfl⟩ : ∃ m, k = m + 2 := ⟨k - 2, by omega⟩
    rw [lombardref01_Split.l3, if_neg (by simp), lombardref01_Split.l2, if_pos (Int.mul_zero s), dist_zero]
  | cons w W ih =>
    intro V A B L k hl h e2 e3 h0 h1 hB hk
    rw [List.length_cons] at hk
    obtain ⟨k, rfl⟩ : ∃ m, k = m + 2 := ⟨k - 2, by omega⟩
    cases B with
    | nil => simp at e3
    | cons b B =>
      have hw := h w (by simp)
      have e3' : W.length = B.length := by simpa using e3
      have hp := pos_le (w :: W)
      rw [List.length_append, List.length_cons] at hl
      rw [List.length_cons] at hp
      rw [e2, l3_step hs (by omega) e2 e3' h0 (by omega) (hB b (by simp)) hw.1]
      have hl' : ((V ++ [w]) ++ W).length ≤ 1000 := by simp; omega
      have hB' : ∀ x ∈ B, 0 ≤ x ∧ x ≤ 10000000000000 := fun x hx => hB x (List.mem_cons_of_mem b hx)
      have h' : ∀ x ∈ W, okw x := fun x hx => h x (List.mem_cons_of_mem w hx)
      have la : A.length + 1 = (V ++ [w]).length := by simp [e2]
      rw [show V ++ w :: W = (V ++ [w]) ++ W by simp, la]
      rw [pos] at h1
      by_cases c1 : 0 < w ∧ 0 < L
      · rw [if_pos c1.1] at h1
        rw [if_pos c1, ih (V ++ [w]) (A ++ [s * (b + 1)]) B (L - 1) k hl' h' (by simp [e2]) e3' (by omega) (by omega) hB' (by omega), dist, if_pos c1]
        simp
      · have : L ≤ pos W := by
          split at h1
          · have := pos_nn W
            omega
          · omega
        rw [if_neg c1, ih (V ++ [w]) (A ++ [s * b]) B L k hl' h' (by simp [e2]) e3' h0 this hB' (by omega), dist, if_neg c1]
        simp

theorem l1_run {n : Int} {ws : List Int} (h : good n ws) : ∀ (W V : List Int) (k : Nat), ws = V ++ W → W.length + 2 * ws.length + 200 ≤ k →
    lombardref01_Split.l1 k n ws (tot ws) ((quos n V (tot ws)).map (one n * ·)) (n - one n * tot (quos n V (tot ws))) ws ws.length V.length = some (parts n ws, 0) := by
  have hg := h
  obtain ⟨g1, g2, g3, g4, g5⟩ := h
  have hS : 0 < tot ws := by have := tot_nn g4; omega
  have hS1 := tot_le g4
  have hs := one_or n
  have n0 : 0 ≤ size n := by unfold size; split <;> omega
  have n1 : size n ≤ 10000000000000 := by unfold size; unfold may at g3; split <;> omega
  intro W
  induction W with
  | nil =>
    intro V k e hk
    obtain ⟨k, rfl⟩ : ∃ m, k = m + 2 := ⟨k - 2, by omega⟩
    rw [List.append_nil] at e
    subst e
    rw [lombardref01_Split.l1, if_neg (by omega)]
    have e1 : n - one n * tot (quos n ws (tot ws)) = one n * (size n - tot (quos n ws (tot ws))) := by rw [Int.mul_sub, one_size]
    obtain ⟨b1, b2, b3⟩ := left_bd hg
    have hB : ∀ b ∈ quos n ws (tot ws), 0 ≤ b ∧ b ≤ 10000000000000 := by
      intro b hb
      unfold quos at hb
      obtain ⟨w, hw, rfl⟩ := List.mem_map.1 hb
      have := quo_bd g3 (g4 w hw) hS (mem_le g4 hw)
      omega
    rw [e1, lombardref01_Split.l2]
    by_cases c : one n * (size n - tot (quos n ws (tot ws))) = 0
    · rw [if_pos c]
      have z : size n - tot (quos n ws (tot ws)) = 0 := by rcases hs with hs | hs <;> rw [hs] at c <;> omega
      unfold parts
      rw [z, dist_zero]
    · rw [if_neg c]
      have := l3_run hs ws [] [] (quos n ws (tot ws)) (size n - tot (quos n ws (tot ws))) k (by simp; omega) g4 (by simp) (by simp [quos]) b1 b2 hB (by omega)
      simpa [parts] using this
  | cons w W ih =>
    intro V k e hk
    obtain ⟨k, rfl⟩ : ∃ m, k = m + 1 := ⟨k - 1, by omega⟩
    have lw : ws.length = V.length + W.length + 1 := by rw [e]; simp; omega
    have hw : w ∈ ws := by rw [e]; simp
    have hok := g4 w hw
    have hok' := hok
    obtain ⟨o0, o1⟩ := hok'
    have qb := quo_bd g3 hok hS (mem_le g4 hw)
    rw [lombardref01_Split.l1, if_pos (by omega), if_pos (by omega), if_pos (by omega), show rd ws (V.length : Int) = w by rw [e]; exact rd_mid V w W]
    rw [part g3 o0 (mem_le g4 hw) hS (by omega) (by omega)]
    simp only [Option.bind_some]
    rw [if_pos (by simp [quos]; omega)]
    have hT : 0 ≤ tot (quos n V (tot ws)) ∧ tot (quos n V (tot ws)) ≤ 10000000000000 * V.length := by
      have : ∀ x ∈ quos n V (tot ws), okw x := by
        intro b hb
        unfold quos at hb
        obtain ⟨v, hv, rfl⟩ := List.mem_map.1 hb
        have hv' : v ∈ ws := by rw [e]; simp [hv]
        have := quo_bd g3 (g4 v hv') hS (mem_le g4 hv')
        unfold okw
        omega
      refine ⟨tot_nn this, ?_⟩
      have := tot_le this
      simpa [quos] using this
    have e3 : quos n (V ++ [w]) (tot ws) = quos n V (tot ws) ++ [size n * w / tot ws] := by simp [quos]
    have e4 : wrap64 (n - one n * tot (quos n V (tot ws)) - one n * (size n * w / tot ws)) = n - one n * tot (quos n (V ++ [w]) (tot ws)) := by
      rw [e3, tot_append]
      simp only [tot]
      unfold may at g3
      rcases hs with hs | hs <;> rw [hs] <;> (rw [w64 (by omega) (by omega)]; omega)
    rw [e4, w64 (n := (V.length : Int) + 1) (by omega) (by omega)]
    have := ih (V ++ [w]) k (by rw [e]; simp) (by simp at hk; omega)
    rw [e3] at this ⊢
    simpa using this

theorem j2_run {n : Int} {ws : List Int} (hw : ∀ w ∈ ws, okw w) (hl : ws.length ≤ 600) (h0 : ws.length ≠ 0 ∨ tot ws = 0) {k : Nat} (hk : 3 * ws.length + 210 ≤ k) :
    (if tot ws = 0 then lombardref01_Split.j2 k n ws (tot ws) true else (lombardref01_May.f n).bind fun t => lombardref01_Split.j2 k n ws (tot ws) (!t)) = some (splitS n ws) := by
  obtain ⟨k, rfl⟩ : ∃ m, k = m + 1 := ⟨k - 1, by omega⟩
  by_cases c : tot ws = 0
  · rw [if_pos c, lombardref01_Split.j2, if_pos rfl]
    unfold splitS
    rw [if_neg (fun g => g.2.2.2.2 c)]
  · rw [if_neg c, XMoney.ref_may]
    simp only [Option.bind_some]
    by_cases m : may n
    · have m' := m
      unfold may at m'
      have g : good n ws := ⟨by omega, hl, m, hw, c⟩
      rw [decide_eq_true m', lombardref01_Split.j2, if_neg (by simp)]
      unfold splitS
      rw [if_pos g]
      have := l1_run g ws [] k (by simp) (by omega)
      simpa [quos, tot] using this
    · have m' := m
      unfold may at m'
      rw [decide_eq_false m', lombardref01_Split.j2, if_pos (by simp)]
      unfold splitS
      rw [if_neg (fun g => m g.2.2.1)]

theorem l0_run {n : Int} {ws : List Int} (hl : ws.length ≤ 600) : ∀ (W V : List Int) (k : Nat), ws = V ++ W → (∀ v ∈ V, okw v) → 2 * W.length + 3 * ws.length + 220 ≤ k →
    lombardref01_Split.l0 k n ws (tot V) ws ws.length V.length = some (splitS n ws) := by
  intro W
  induction W with
  | nil =>
    intro V k e hV hk
    obtain ⟨k, rfl⟩ : ∃ m, k = m + 1 := ⟨k - 1, by omega⟩
    rw [List.append_nil] at e
    subst e
    rw [lombardref01_Split.l0, if_neg (by omega)]
    refine j2_run hV hl ?_ (by omega)
    by_cases c : ws.length = 0
    · right
      rw [List.eq_nil_of_length_eq_zero c]
      rfl
    · exact .inl c
  | cons w W ih =>
    intro V k e hV hk
    rw [List.length_cons] at hk
    obtain ⟨k, rfl⟩ : ∃ m, k = m + 2 := ⟨k - 2, by omega⟩
    have lw : ws.length = V.length + W.length + 1 := by rw [e]; simp; omega
    have hw : w ∈ ws := by rw [e]; simp
    have no : ¬okw w → splitS n ws = ([], 2) := by
      intro h
      unfold splitS
      rw [if_neg (fun g => h (g.2.2.2.1 w hw))]
    rw [lombardref01_Split.l0, if_pos (by omega), if_pos (by omega), if_pos (by omega), show rd ws (V.length : Int) = w by rw [e]; exact rd_mid V w W]
    by_cases c : w < 0
    · rw [if_pos c, lombardref01_Split.j1, if_pos rfl, no (by unfold okw; omega)]
    · rw [if_neg c, XMoney.ref_may]
      simp only [Option.bind_some]
      by_cases d : w ≤ 10000000000000
      · rw [decide_eq_true (by omega), lombardref01_Split.j1, if_neg (by simp), if_neg (by omega), w64 (n := (V.length : Int) + 1) (by omega) (by omega)]
        have t := tot_le hV
        have t0 := tot_nn hV
        rw [w64 (n := tot V + w) (by omega) (by omega)]
        have := ih (V ++ [w]) k (by rw [e]; simp) (by
          intro v hv
          rcases List.mem_append.1 hv with hv | hv
          · exact hV v hv
          · rw [List.mem_singleton.1 hv]; unfold okw; omega) (by omega)
        rw [tot_append] at this
        simpa [tot] using this
      · rw [decide_eq_false (by omega), lombardref01_Split.j1, if_pos (by simp), no (by unfold okw; omega)]

theorem split {n : Int} {ws : List Int} {k : Nat} (hk : 4000 ≤ k) : lombardref01_Split.f k n ws = some (splitS n ws) := by
  unfold lombardref01_Split.f
  by_cases c : ws.length ≤ 600
  · have := l0_run (n := n) c ws [] k (by simp) (by simp) (by omega)
    simpa [tot] using this
  · obtain ⟨k, rfl⟩ : ∃ m, k = m + 2 := ⟨k - 2, by omega⟩
    have no : splitS n ws = ([], 2) := by
      unfold splitS
      rw [if_neg (fun g => c g.2.1)]
    rw [no, lombardref01_Split.l0, if_pos (by omega), if_pos (by omega), if_pos (by omega)]
    have J : ∀ b : Bool, lombardref01_Split.j1 (k + 1) n ws 0 (rd ws 0) ws ws.length 0 b = some ([], 2) := by
      intro b
      rw [lombardref01_Split.j1]
      split
      · rfl
      · rw [if_pos (by omega)]
    split
    · exact J _
    · rw [XMoney.ref_may]
      simp only [Option.bind_some]
      exact J _
end Go.Proofs.Ytohbdjfabghagaa.XRefSplit
end

section
namespace Go.Proofs.Ytohbdjfabghagaa.Pure
set_option linter.unusedVariables false
set_option linter.unusedSimpArgs false
open Go.RowKit Go.Proofs.Ytohbdjfabghagaa.S Go.Proofs.Ytohbdjfabghagaa.XNum Go.Proofs.Ytohbdjfabghagaa.XSplit Go.Proofs.Ytohbdjfabghagaa.MoneyAlive Go.Proofs.YtohbdjfabghagaaW.PrintWords Go.Proofs.YtohbdjfabghagaaW.PrintLast

theorem parts_length (n : Int) (ws : List Int) : (splitS n ws).1.length ≤ ws.length := by
  have dl : ∀ (ws qs : List Int) (L : Int), (dist ws qs L).length = qs.length := by
    intro ws
    induction ws with
    | nil => intro qs L; unfold dist; rfl
    | cons w ws ih =>
      intro qs L
      cases qs with
      | nil => unfold dist; rfl
      | cons q qs =>
        unfold dist
        split <;> simp [ih]
  unfold splitS
  split
  · simp [parts, dl, quos]
  · simp

theorem MoneySplits : lombardlaw01_MoneySplits.Pure := by
  intro n ws hn hl1 _ hl
  obtain ⟨k, hk⟩ : ∃ k : Nat, k = 10000 := ⟨_, rfl⟩
  refine ⟨k, ?_⟩
  unfold lombardlaw01_MoneySplits.f
  rw [alive (by omega), Option.bind_some, if_pos rfl]
  by_cases c : (ws.length : Int) > 1000
  · rw [if_pos c]
  have := parts_length n ws
  rw [if_neg c, XSplit.split (by omega), Option.bind_some, XRefSplit.split (by omega), Option.bind_some, same (by omega) (by omega), decide_eq_true rfl, Option.bind_some, if_pos rfl]
  simp
end Go.Proofs.Ytohbdjfabghagaa.Pure
end

section
namespace Go.Proofs.YtohbdjfabghagaaW.PrintWords
open Go.ChangeShapes Go.WideShapes
/-- A row's slice of whole numbers is no longer than its weight allows. -/
theorem sized_ints {H : Type} {enc : TypeId × Value → H} {P : Program} {W : World} {base : Nat} {spare : Nat → Bool} {held : Bool} {t e : TypeId} {k : IntKind} {a : Option Addr} {len cap : Nat} {d : DataW H} {ps : List MemPlace} {ts : List TypeId} {ds : List (DataW H)} {j : Nat}
    (hsz : (DataW.weightsEach P ts ds).all (· ≤ reachBytes) = true) (ht : ts[j]? = some t) (hd : ds[j]? = some d) (hu : P.underlying t = some (.slice e)) (he : P.underlying e = some (.int k)) (hc : P.cellsOf e = 1) {B : Nat} (hB : P.bytesOf e = B)
    (h : DataW.Trod enc P W base spare held t (.slice a len cap) d ps) : len * B ≤ 140737488351232 := by
  obtain ⟨fuel, hf⟩ := h
  rcases open_ints hu he hc hf with ⟨hcs, _⟩ | ⟨x, l, c, zs, hcs, _, hl, _, hz, hx, _, _⟩
  · simp [Value.cells] at hcs
    obtain ⟨rfl, rfl, rfl⟩ := hcs
    simp
  · simp [Value.cells] at hcs
    obtain ⟨rfl, rfl, rfl⟩ := hcs
    obtain ⟨hx, _⟩ := Prod.mk.inj hx
    subst hx
    have z := sized_slice hsz ht hd hu
    rw [hB] at z
    have hl2 : len ≤ zs.length := by
      rw [hz]
      split
      · exact hl
      · exact Nat.le_refl _
    have h1 : (lits (H := H) k (zs.take len)).length + (lits (H := H) k (zs.drop len)).length = zs.length := by
      simp [lits]
      omega
    rw [h1] at z
    exact Nat.le_trans (Nat.mul_le_mul_right _ hl2) z
end Go.Proofs.YtohbdjfabghagaaW.PrintWords
end

section
namespace Go.Proofs.Ytohbdjfabghagaa.moneySplits
open Go.ChangeShapes Go.WideShapes Go.ChangeAt Go.RowKit
open Go.ChangeMaps (open_string shut_string)
set_option linter.unusedVariables false
theorem own : ownKnob Try.prog.godebug = none := by kernel_rfl
theorem laidOut : laidOutB Try.prog = true := by kernel_rfl
def IsRow (k : IntKind) (w : World) (a : Option Addr) (len cap : Nat) (zs : List Int) : Prop :=
  (a = none ∧ len = 0 ∧ cap = 0 ∧ zs = []) ∨
  ∃ x, a = some x ∧ len ≤ cap ∧ cap ≤ maxLen ∧ zs.length = cap ∧ (∀ i, i < zs.length → w.cell? (x.add i) = some (.int k (zs.getD i 0))) ∧ ∀ n ∈ zs, (Lit.int k n).wf = true
set_option maxRecDepth 100000 in
theorem lifted (os : Os) (started : os.Started) (H : Type) (enc : TypeId × Value → H) :
    ReturnsInHanded {} Try.checked os 6 .any (Rows.moneySplitsSpec.pre6 enc Try.prog Try.f6 Rows.moneySplitsRow.domain false) (Rows.moneySplitsSpec.post enc Try.prog Try.f6 false true false false) := by
  refine returnsInHanded_of_change_sized (C := Try.checked) own started (by kernel_rfl) Try.func6
    (ChangeSpec.witness6 (enc := enc) (C := Try.checked) false ⟨#[], #[.int .i64 0, .slice none 0 0], []⟩ 8 (by kernel_rfl) (by kernel_rfl) (by kernel_rfl) (by kernel_rfl)) ?_
  intro W base args ds gs before hval0 hW hcnd hsz0 _
  have hsz : (DataW.weightsEach Try.prog (Try.f6.params.toList ++ Rows.moneySplitsSpec.plain.varTypes Try.prog) (ds ++ gs)).all (· ≤ reachBytes) = true := hsz0
  have hval : ∀ (j : Nat) t v, Try.f6.params[j]? = some t → args[j]? = some v → Value.okWide Try.prog W .any base t v := hval0
  have hW' := hW
  obtain ⟨p, q, hA0, hV, rfl, hfz, hnd⟩ := hW
  have hA : DataW.TrodAll enc Try.prog W 0 (fun _ => true) true Try.f6.params.toList args.toList ds p := hA0
  rw [Try.params6] at hA hval hsz
  obtain ⟨v0, vs0, d0, ds0, p0, q0, hargs, rfl, rfl, h0, r0⟩ := trodAll_cons hA
  obtain ⟨v1, vs1, d1, ds1, p1, q1, rfl, rfl, rfl, h1, r1⟩ := trodAll_cons r0
  obtain ⟨rfl, rfl, rfl⟩ := trodAll_nil r1
  obtain rfl : args = #[v0, v1] := by cases args; simp_all
  obtain ⟨rfl, rfl⟩ := trodVars_none hV
  obtain ⟨a0, rfl, rfl, rfl, w0⟩ := open_int Try.underlying2 (hval 0 2 v0 rfl rfl) h0
  obtain ⟨a1, len1, cap1, rfl⟩ := okWide_slice Try.underlying36 (hval 1 36 v1 rfl rfl)
  have k1 := h1
  have lt1 : ∀ x ∈ p1, x.block < W.heap.size := by obtain ⟨m, hm⟩ := k1; exact DataW.trod_lt m _ _ _ hm
  obtain ⟨z1, w1⟩ : ∃ zs, IsRow .i64 W a1 len1 cap1 zs := by
    obtain ⟨fuel, hf⟩ := h1
    rcases open_ints Try.underlying36 Try.underlying2 (by kernel_rfl) hf with ⟨hcs, _⟩ | ⟨x, l, c, zs, hcs, _, hl, hm, hz, _, hcell, hwz⟩
    · simp [Value.cells] at hcs
      obtain ⟨rfl, rfl, rfl⟩ := hcs
      exact ⟨[], .inl ⟨rfl, rfl, rfl, rfl⟩⟩
    · simp [Value.cells] at hcs
      obtain ⟨rfl, rfl, rfl⟩ := hcs
      exact ⟨zs, .inr ⟨_, rfl, hl, hm, by simpa using hz, hcell, hwz⟩⟩
  have y1 : len1 * 8 ≤ 140737488351232 := Go.Proofs.YtohbdjfabghagaaW.PrintWords.sized_ints hsz (j := 1) (t := 36) rfl rfl Try.underlying36 Try.underlying2 (by kernel_rfl) (by kernel_rfl) h1
  clear hA0 hval0 hsz0 hsz
  refine (S.lombardlaw01_MoneySplits.walk Pure.MoneySplits a0 a1 len1 cap1 z1 W w0 w1 y1).mono fun e W' ⟨he, bel⟩ => ?_
  subst he
  exact ⟨_, rfl, _, _, _, [], _, [], hW', trodAll_mk1 (shut_bool Try.underlying4 _), (trodAll_cons_mk (shut_int Try.underlying2 w0) (trodAll_cons_mk (Below.trod laidOut (by kernel_rfl) (of_decide_eq_true (by kernel_rfl)) k1 bel lt1) trodAll_mk0)), rfl, bel.frame _, fun h => by cases h⟩
theorem over : Rows.moneySplitsRow.holds Try.pinned (OpenSpec.ofChange Rows.moneySplitsSpec) :=
  OpenClaim.holds_of_wide 6 Try.f6 rfl rfl rfl rfl rfl rfl rfl ⟨rfl, rfl, rfl, rfl, rfl⟩ rfl rfl rfl rfl rfl (by kernel_rfl) Try.func6 (by kernel_rfl)
    (of_decide_eq_true (by kernel_rfl)) (by unfold Func.isWrapper; first | (rw [if_pos (by decide +kernel)]; kernel_rfl) | (rw [if_neg (by decide +kernel)]; exact ⟨rfl, rfl⟩))
    (fun os started H enc _ => lifted os started H enc)
theorem proved : Rows.MoneySplitsSaid := over
#print axioms proved
end Go.Proofs.Ytohbdjfabghagaa.moneySplits
namespace Go.Proofs.Ytohbdjfabghagaa
/-- The row, under a short name, for the claim. -/
theorem moneySplits_holds : Rows.MoneySplitsSaid := moneySplits.proved
end Go.Proofs.Ytohbdjfabghagaa
end
