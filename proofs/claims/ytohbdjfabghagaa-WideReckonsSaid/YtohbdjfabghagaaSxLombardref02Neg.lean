/- Printed by a program of this session out of the translation: what each function called here computes, and that its call comes to just that. Conditions: none beyond those that each theorem names. -/
import Derived.Test.YtohbdjfabghagaaSx0
import Derived.Test.YtohbdjfabghagaaSxLombardref02Size
import Derived.Test.YtohbdjfabghagaaSxLombardref02Big
import Derived.Test.YtohbdjfabghagaaSxLombardref02Small
import Derived.Test.YtohbdjfabghagaaSxLombardref02Back
import Derived.Test.YtohbdjfabghagaaSxLombardref02Add
import Derived.Test.YtohbdjfabghagaaSxLombardref02None
namespace Go.Proofs.Ytohbdjfabghagaa.S
open Go.RowKit Go.Proofs.YtohbdjfabghagaaW.PrintWords Go.Proofs.YtohbdjfabghagaaW.PrintLast Go.Proofs.YtohbdjfabghagaaW.PrintMore
attribute [local go_sem] max2_int min2_int max_two min_two max_three min_three max_four min_four   -- for this text's walks alone
attribute [local go_sem] Go.Proofs.Ytohbdjfabghagaa.XWalk.cell2
set_option linter.unusedVariables false
set_option linter.unusedSimpArgs false

/-! ### lombardref02_Neg: function 42 -/
-- IMPORT BigMath
theorem B.loadG {o : Oper} {ρ : Operand → Value} {W : World} {g N : Nat} {less : Bool} (x : Operand) (ho : o.op = .load 75 x) (hx : ρ x = .pointer (some ⟨g, 0, none⟩)) (h : B.HasB W g less N) : (execOp ρ o).run Try.prog W = .ok (.value (.agg (B.big less N))) W := by
  have r := run_loadVar_row (P := Try.prog) W g 75 75 (B.big less N) (0, 0) _ h Try.underlying75 rfl (B.infoB _ _)
  unfold execOp
  simp only [ho, hx, Instr.loadAt, Instr.sureAddr, Sem.run_bind, Sem.run_pure, Result.andThen_ok, r]
theorem B.wpLoadG {ops : Array Oper} {rest : List Oper} {o : Oper} {a : Act} {w : World} {Q : Exit → Act → World → Prop} (hw : Region.wanted o (yielded ops a.tmps) = true) (x : Operand) (ho : o.op = .load 75 x) (g N : Nat) (less : Bool) (hx : a.eval x = .pointer (some ⟨g, 0, none⟩)) (hg : B.HasB w g less N)
    (h : wpList Try.prog ops Q rest (a.put o.dst (.agg (B.big less N))) w) : wpList Try.prog ops Q (o :: rest) a w := by
  refine wpList_step fun K hK => ?_
  rw [if_pos hw]
  unfold Oper.wp
  rw [B.loadG x ho hx hg]
  exact hK _ _ h
def lombardref02_Neg.l (a0 a1 : Int) : Bool := !B.less a0 && !decide (B.abs a0 a1 = 0)
def lombardref02_Neg.f (a0 a1 : Int) : Option (Int × Int × Int) :=
  if -9223372036854775808 ≤ a0 ∧ a0 ≤ 9223372036854775807 ∧ 0 ≤ a1 ∧ a1 < 18446744073709551616 then some (lombardref02_back.hi (lombardref02_Neg.l a0 a1) (B.abs a0 a1), lombardref02_back.lo (lombardref02_Neg.l a0 a1) (B.abs a0 a1), if lombardref02_back.bad (lombardref02_Neg.l a0 a1) (B.abs a0 a1) = true then 3 else 0) else none
set_option maxRecDepth 100000 in
set_option maxHeartbeats 8000000 in
theorem lombardref02_Neg.calls (a0 a1 r1 r2 r3 : Int) (w : World) (h : lombardref02_Neg.f a0 a1 = some (r1, r2, r3)) : Calls Try.prog 42 #[.agg #[.int .i64 a0, .int .u64 a1]] w fun e w' => e = .returned (.tuple #[.agg #[.int .i64 r1, .int .u64 r2], .int .i64 r3]) ∧ Below w.heap.size w w' := by
  unfold lombardref02_Neg.f at h
  split at h
  · rename_i c
    obtain ⟨c1, c2, c3, c4⟩ := c
    have BA := Aside0.mk (fun W => lombardref02_big.calls a0 a1 c1 c2 c3 c4 W)
    have lx := lombardref02_Add.up (B.abs_lt c1 c2 c3 c4) (show 128 ≤ 260 by decide)
    have NO := Aside0.mk (fun l W => lombardref02_none.calls l (B.abs a0 a1) lx W)
    have BK := Aside0.mk (fun W => lombardref02_back.calls (lombardref02_Neg.l a0 a1) (B.abs a0 a1) lx W)
    have Z0 := Aside0.mk (fun h : lombardref02_back.bad (lombardref02_Neg.l a0 a1) (B.abs a0 a1) = true => lombardref02_back.zero h)
    obtain ⟨ok, hok⟩ : ∃ ok, ok = !lombardref02_back.bad (lombardref02_Neg.l a0 a1) (B.abs a0 a1) := ⟨_, rfl⟩
    rw [← hok] at BK
    rw [show lombardref02_back.bad (lombardref02_Neg.l a0 a1) (B.abs a0 a1) = !ok by rw [hok, Bool.not_not]] at Z0 h
    clear hok
    generalize lombardref02_back.hi (lombardref02_Neg.l a0 a1) (B.abs a0 a1) = p at *
    generalize lombardref02_back.lo (lombardref02_Neg.l a0 a1) (B.abs a0 a1) = q at *
    have h2 := Option.some.inj h
    have R3 := Aside0.mk (Prod.mk.inj (Prod.mk.inj h2).2).2
    obtain rfl := (Prod.mk.inj h2).1
    obtain rfl := (Prod.mk.inj (Prod.mk.inj h2).2).1
    unfold lombardref02_Neg.l at BK
    generalize B.abs a0 a1 = N at *
    generalize B.less a0 = l at *
    clear h h2 c1 c2 c3 c4 lx
    have k0 := blk_alloc (blk_new w (.cells #[.int .i64 a0, .int .u64 a1] 32)) (.cells #[.int .i64 0, .int .u64 0] 32)
    have k1 := blk_new (w.alloc (.cells #[.int .i64 a0, .int .u64 a1] 32)) (.cells #[.int .i64 0, .int .u64 0] 32)
    have b1 := below_alloc (below_alloc (Below.refl w.heap.size w) (.cells #[.int .i64 a0, .int .u64 a1] 32)) (.cells #[.int .i64 0, .int .u64 0] 32)
    rw [World.size_alloc] at k1
    go_enter Try.func42, Try.ntmps42
    go_upto_region 1 with (fail)
    generalize (w.alloc (.cells #[.int .i64 a0, .int .u64 a1] 32)).alloc (.cells #[.int .i64 0, .int .u64 0] 32) = w1 at *
    have e0 := blk_cell k0 0
    have e1 := blk_cell k0 1
    go_upto_region 2 with (first | (go_at_call 52; (with_reducible refine (BA.out _).mono ?_); rintro e w2 ⟨rfl, h2⟩; have y4 := B.HasB.new0 w2) | ((with_reducible refine B.gateOp (.store 75 (.tmp 4) (.tmp 8)) rfl ?_); refine wpList_store_row rfl 75 (.tmp 4) (.tmp 8) rfl w2.heap.size (B.big l N) rfl rfl 75 _ y4 (B.infoB _ _) (by rw [B.big_size, B.big_size]) (B.plainB _ _) ?_))
    have k2 := blk_below k1 h2
    have b2 := below_then b1 b1.size h2
    have zl : w.heap.size + 1 < w2.heap.size := blk_lt k2
    have y5 := y4.row l N
    have k3 := (setRow_other _ w2.heap.size (w.heap.size + 1) (B.big l N) (by omega)).trans (blk_alloc k2 (.cells Try.zeroCells75 75))
    have b3 := B.below_row (below_alloc b2 (.cells Try.zeroCells75 75)) (k := w2.heap.size) (by omega) (B.big l N)
    clear k0 k1 k2 b1 b2 e0 e1 BA y4 h2
    obtain ⟨z, hz⟩ : ∃ z, z = w2.heap.size := ⟨_, rfl⟩
    rw [← hz] at y5 k3 b3 zl ⊢
    generalize (w2.alloc (.cells Try.zeroCells75 75)).setRow z (B.big l N) = w3 at *
    have Y5 := Aside0.mk y5
    have K3 := Aside0.mk k3
    have B3 := Aside0.mk b3
    have c0 := y5.cell0
    have z0 := blk_frozen y5 0
    have ZL := Aside0.mk zl
    clear k3 b3 hz zl
    cases l with
    | true =>
      clear NO
      rw [show (!true && !decide (N = 0)) = false by rfl] at BK
      go_upto_region 3 with (fail)
      have y6 := Y5.out.less false
      have K5 := Aside0.mk (blk_far K3.out (p := ⟨z, 0, none⟩) (by have := ZL.out; show w.heap.size + 1 ≠ z; omega) (.bool false))
      have B5 := Aside0.mk (below_set (j := 0) (v := .bool false) B3.out (by have := ZL.out; omega : w.heap.size ≤ z))
      clear Y5 y5 K3 B3 c0 z0
      generalize w3.setCell ⟨z, 0, none⟩ (.bool false) = w5 at *

      go_upto_region 4 with (first | ((with_reducible refine B.gateOp (.load 75 (.tmp 4)) rfl ?_); refine B.wpLoadG rfl (.tmp 4) rfl z N _ rfl y6 ?_) | (go_at_call 62; (with_reducible refine (BK.out _).mono ?_); rintro e w6 ⟨rfl, h6⟩))
      have k6 := blk_alloc (blk_below K5.out h6) (.cells #[.int .i64 p, .int .u64 q] 32)
      have n6 := blk_new w6 (.cells #[.int .i64 p, .int .u64 q] 32)
      have b6 := below_alloc (below_then B5.out B5.out.size h6) (.cells #[.int .i64 p, .int .u64 q] 32)
      clear BK K5 B5 h6 y6
      generalize w6.heap.size = u at *
      generalize w6.alloc (.cells #[.int .i64 p, .int .u64 q] 32) = w7 at *
      have f0 := blk_cell n6 0
      have f1 := blk_cell n6 1
      have g0 := blk_cell k6 0
      have g1 := blk_cell k6 1
      have u0 := blk_frozen k6 0
      have u1 := blk_frozen k6 1
      clear n6
      cases ok with
      | false =>
        have r0 := Z0.out rfl
        have r3 : 3 = r3 := R3.out
        obtain ⟨rfl, rfl⟩ := r0
        subst r3
        go_wp2
        refine bodyPost_ret (results_ct rfl _ _ (w.heap.size + 1) 32 #[.int .i64 0, .int .u64 0] (0, 0) _ rfl (by refine blk_put (cs := #[.int .i64 0, .int .u64 0]) ?_ 1 _ rfl; refine blk_put (cs := #[.int .i64 0, .int .u64 0]) ?_ 0 _ rfl; exact k6) Try.underlying32 rfl (by kernel_rfl)) rfl ?_
        exact ⟨rfl, below_set (below_set b6 (by omega)) (by omega)⟩
      | true =>
        have r3 : 0 = r3 := R3.out
        subst r3
        go_wp2
        refine bodyPost_ret (results_ct rfl _ _ (w.heap.size + 1) 32 #[.int .i64 p, .int .u64 q] (0, 0) _ rfl (by refine blk_put (cs := #[.int .i64 p, .int .u64 0]) ?_ 1 _ rfl; refine blk_put (cs := #[.int .i64 0, .int .u64 0]) ?_ 0 _ rfl; exact k6) Try.underlying32 rfl (by kernel_rfl)) rfl ?_
        exact ⟨rfl, below_set (below_set b6 (by omega)) (by omega)⟩
    | false =>
      rw [show (!false && !decide (N = 0)) = !decide (N = 0) by rfl] at BK
      obtain ⟨d, hd⟩ : ∃ d, d = decide (N = 0) := ⟨_, rfl⟩
      rw [← hd] at BK NO
      clear hd
      go_upto_region 3 with (first | ((with_reducible refine B.gateOp (.load 75 (.tmp 4)) rfl ?_); refine B.wpLoadG (by first | rfl | (go_simp; done) | kernel_rfl) (.tmp 4) rfl z N false rfl y5 ?_) | (go_at_call 64; (with_reducible refine (NO.out false _).mono ?_); rintro e w4 ⟨rfl, h4⟩; have c4 := (y5.below h4).cell0; have z4 := blk_frozen (y5.below h4) 0))
      have y6 := (Y5.out.below h4).less (!d)
      have K5 := Aside0.mk (blk_far (blk_below K3.out h4) (p := ⟨z, 0, none⟩) (by have := ZL.out; show w.heap.size + 1 ≠ z; omega) (.bool (!d)))
      have B5 := Aside0.mk (below_set (j := 0) (v := .bool (!d)) (below_then B3.out B3.out.size h4) (by have := ZL.out; omega : w.heap.size ≤ z))
      clear Y5 y5 K3 B3 c0 z0 c4 z4 h4
      generalize w4.setCell ⟨z, 0, none⟩ (.bool (!d)) = w5 at *

      go_upto_region 4 with (first | ((with_reducible refine B.gateOp (.load 75 (.tmp 4)) rfl ?_); refine B.wpLoadG rfl (.tmp 4) rfl z N _ rfl y6 ?_) | (go_at_call 62; (with_reducible refine (BK.out _).mono ?_); rintro e w6 ⟨rfl, h6⟩))
      have k6 := blk_alloc (blk_below K5.out h6) (.cells #[.int .i64 p, .int .u64 q] 32)
      have n6 := blk_new w6 (.cells #[.int .i64 p, .int .u64 q] 32)
      have b6 := below_alloc (below_then B5.out B5.out.size h6) (.cells #[.int .i64 p, .int .u64 q] 32)
      clear BK K5 B5 h6 y6
      generalize w6.heap.size = u at *
      generalize w6.alloc (.cells #[.int .i64 p, .int .u64 q] 32) = w7 at *
      have f0 := blk_cell n6 0
      have f1 := blk_cell n6 1
      have g0 := blk_cell k6 0
      have g1 := blk_cell k6 1
      have u0 := blk_frozen k6 0
      have u1 := blk_frozen k6 1
      clear n6
      cases ok with
      | false =>
        have r0 := Z0.out rfl
        have r3 : 3 = r3 := R3.out
        obtain ⟨rfl, rfl⟩ := r0
        subst r3
        go_wp2
        refine bodyPost_ret (results_ct rfl _ _ (w.heap.size + 1) 32 #[.int .i64 0, .int .u64 0] (0, 0) _ rfl (by refine blk_put (cs := #[.int .i64 0, .int .u64 0]) ?_ 1 _ rfl; refine blk_put (cs := #[.int .i64 0, .int .u64 0]) ?_ 0 _ rfl; exact k6) Try.underlying32 rfl (by kernel_rfl)) rfl ?_
        exact ⟨rfl, below_set (below_set b6 (by omega)) (by omega)⟩
      | true =>
        have r3 : 0 = r3 := R3.out
        subst r3
        go_wp2
        refine bodyPost_ret (results_ct rfl _ _ (w.heap.size + 1) 32 #[.int .i64 p, .int .u64 q] (0, 0) _ rfl (by refine blk_put (cs := #[.int .i64 p, .int .u64 0]) ?_ 1 _ rfl; refine blk_put (cs := #[.int .i64 0, .int .u64 0]) ?_ 0 _ rfl; exact k6) Try.underlying32 rfl (by kernel_rfl)) rfl ?_
        exact ⟨rfl, below_set (below_set b6 (by omega)) (by omega)⟩
  · exact absurd h (by simp)


end Go.Proofs.Ytohbdjfabghagaa.S
