/- Printed by a program of this session out of the translation: what each function called here computes, and that its call comes to just that. Conditions: none beyond those that each theorem names. -/
import Derived.Test.YtohbdjfabghagaaSx0
import Derived.Test.YtohbdjfabghagaaSxLombardref02Size
namespace Go.Proofs.Ytohbdjfabghagaa.S
open Go.RowKit Go.Proofs.YtohbdjfabghagaaW.PrintWords Go.Proofs.YtohbdjfabghagaaW.PrintLast Go.Proofs.YtohbdjfabghagaaW.PrintMore
attribute [local go_sem] max2_int min2_int max_two min_two max_three min_three max_four min_four   -- for this text's walks alone
attribute [local go_sem] Go.Proofs.Ytohbdjfabghagaa.XWalk.cell2
set_option linter.unusedVariables false
set_option linter.unusedSimpArgs false

/-! ### lombardref02_plus: function 69 -/
-- IMPORT BigMath
theorem lombardref02_plus.round {a b S i : Nat} {c : Nat} (hc : c = Go.Proofs.Ytohbdjfabghagaa.BigMath.carry a b i) (hS : S = a + b) :
    bits .and .u8 ((B.bit a i + B.bit b i + (c : Int)) % 256) 1 = B.bit S i ∧ (B.bit a i + B.bit b i + (c : Int)) % 256 / 2 = (Go.Proofs.Ytohbdjfabghagaa.BigMath.carry a b (i + 1) : Nat) := by
  have h := Go.Proofs.Ytohbdjfabghagaa.BigMath.plus_step a b i
  have h1 := Go.Proofs.Ytohbdjfabghagaa.BigMath.bitN_lt a i
  have h2 := Go.Proofs.Ytohbdjfabghagaa.BigMath.bitN_lt b i
  have h3 := Go.Proofs.Ytohbdjfabghagaa.BigMath.bitN_lt (a + b) i
  have h4 := Go.Proofs.Ytohbdjfabghagaa.BigMath.carry_lt a b i
  subst hc hS
  unfold B.bit
  rw [B.and1 (by omega) (by omega)]
  omega
set_option maxRecDepth 100000 in
set_option maxHeartbeats 4000000 in
theorem lombardref02_plus.calls (a b : Nat) (w : World) : Calls Try.prog 69 #[.agg (B.cells a), .agg (B.cells b)] w fun e w' => e = .returned (.agg (B.cells ((a + b) % 2 ^ 260))) ∧ Below w.heap.size w w' := by
  obtain ⟨S, hS⟩ : ∃ S : Nat, S = a + b := ⟨_, rfl⟩
  obtain ⟨m, hm⟩ : ∃ m : Nat, m = 260 := ⟨_, rfl⟩
  rw [← hS]
  suffices h : Calls Try.prog 69 #[.agg (B.cells a), .agg (B.cells b)] w fun e w' => e = .returned (.agg (B.cells (S % 2 ^ m))) ∧ Below w.heap.size w w' by
    rw [hm] at h
    exact h
  have HS := Aside0.mk hS
  have HM := Aside0.mk hm
  clear hS hm
  go_enter Try.func69, Try.ntmps69
  go_wp2
  go_loopg [6, 7] 260 (fun kq v6 v7 w' => ∃ (c i : Nat), v6 = .int .u8 c ∧ v7 = .int .i64 i ∧ Aside0 (i + kq = 260) ∧ Aside0 (c = Go.Proofs.Ytohbdjfabghagaa.BigMath.carry a b i) ∧ Aside0 (B.Has w' w.heap.size a) ∧ Aside0 (B.Has w' (w.heap.size + 1) b) ∧ Aside0 (B.Has w' (w.heap.size + 1 + 1) 0) ∧ Aside0 (B.Has w' (w.heap.size + 1 + 1 + 1) (S % 2 ^ i)) ∧ Aside0 (Below w.heap.size w w'))
  case atStart =>
    have h1 := B.Has.new w a
    have h2 := B.Has.new (w.alloc (.cells (B.cells a) 73)) b
    have h3 := B.Has.new0 ((w.alloc (.cells (B.cells a) 73)).alloc (.cells (B.cells b) 73))
    have h4 := B.Has.new0 (((w.alloc (.cells (B.cells a) 73)).alloc (.cells (B.cells b) 73)).alloc (.cells Try.zeroCells73 73))
    simp only [World.size_alloc] at h2 h3 h4
    refine ⟨0, 0, rfl, rfl, ⟨rfl⟩, ⟨(Go.Proofs.Ytohbdjfabghagaa.BigMath.carry_zero a b).symm⟩, ⟨((h1.alloc _).alloc _).alloc _⟩, ⟨(h2.alloc _).alloc _⟩, ⟨h3.alloc _⟩, ⟨?_⟩, ⟨?_⟩⟩
    · rw [Nat.pow_zero, Nat.mod_one]
      exact h4
    · exact below_alloc (below_alloc (below_alloc (below_alloc (Below.refl _ w) _) _) _) _
  case round =>
    obtain ⟨c, i, rfl, rfl, hik, hc, hA, hB, hZ, hO, hW⟩ := hrel
    cases gk with
    | zero =>
      have q1 : decide ((i : Int) < 260) = false := decide_eq_false (by have := hik.out; omega)
      have e : i = m := by have := hik.out; have := HM.out; omega
      have E := Aside0.mk e
      clear e
      go_wp2_with (first | (refine wpList_load_row rfl 73 (.tmp 5) rfl (w.heap.size + 1 + 1 + 1) rfl 73 (B.cells (S % 2 ^ i)) (0, 0) _ hO.out B.under rfl (B.infoN _) ?_) | (refine wpList_store_row rfl 73 (.tmp 4) (.tmp 28) rfl (w.heap.size + 1 + 1) (B.cells (S % 2 ^ i)) rfl rfl 73 _ hZ.out (B.infoN _) (by rw [B.size, B.size]) (B.plain _) ?_))
      refine bodyPost_ret (results_cell_row (by rfl) _ _ (w.heap.size + 1 + 1) 73 (B.cells (S % 2 ^ i)) (0, 0) _ (by rfl) (hZ.out.row _) B.under rfl (B.infoN _)) rfl ?_
      exact ⟨by rw [E.out], B.below_row hW.out (by omega) _⟩
    | succ k1 =>
      have hi : i < 260 := by have := hik.out; omega
      have q1 : decide ((i : Int) < 260) = true := decide_eq_true (by omega)
      have xA := B.ix w.heap.size i hi
      have xB := B.ix (w.heap.size + 1) i hi
      have xO := B.ix (w.heap.size + 1 + 1 + 1) i hi
      have cA := hA.out.cell hi
      have cB := hB.out.cell hi
      obtain ⟨r1, r2⟩ := lombardref02_plus.round hc.out HS.out
      have R1 := Aside0.mk r1
      have R2 := Aside0.mk r2
      clear r1 r2
      go_upto_region 7 with (fail)
      repeat (go_quiet (fail); go_upto_region 7 with (fail))
      have cO := (hO.out).cell hi
      have fO := blk_frozen hO.out i
      go_upto_region 5 with (fail)
      go_wp2
      go_roundg k1
      case measure => omega
      case rel =>
        refine ⟨Go.Proofs.Ytohbdjfabghagaa.BigMath.carry a b (i + 1), i + 1, by rw [R2.out], by first | rfl | (rw [B.w1 (by omega) (by omega)]; rfl), ⟨by have := hik.out; omega⟩, ⟨rfl⟩, ⟨(hA.out.drew _).set _ _ (by show w.heap.size ≠ w.heap.size + 1 + 1 + 1; omega)⟩, ⟨(hB.out.drew _).set _ _ (by show w.heap.size + 1 ≠ w.heap.size + 1 + 1 + 1; omega)⟩, ⟨(hZ.out.drew _).set _ _ (by show w.heap.size + 1 + 1 ≠ w.heap.size + 1 + 1 + 1; omega)⟩, ⟨(hO.out.drew _).put hi R1.out⟩, ⟨(pw_below_drewN hW.out _).setCell (by show w.heap.size ≤ w.heap.size + 1 + 1 + 1; omega) _⟩⟩


end Go.Proofs.Ytohbdjfabghagaa.S
