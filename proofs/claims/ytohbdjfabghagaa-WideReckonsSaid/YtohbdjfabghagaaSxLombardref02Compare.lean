/- Printed by a program of this session out of the translation: what each function called here computes, and that its call comes to just that. Conditions: none beyond those that each theorem names. -/
import Derived.Test.YtohbdjfabghagaaSx0
import Derived.Test.YtohbdjfabghagaaSxLombardref02Size
import Derived.Test.YtohbdjfabghagaaSxLombardref02Big
import Derived.Test.YtohbdjfabghagaaSxLombardref02Small
import Derived.Test.YtohbdjfabghagaaSxLombardref02Div
import Derived.Test.YtohbdjfabghagaaSxLombardref02Sum
import Derived.Test.YtohbdjfabghagaaSxLombardref02Add
import Derived.Test.YtohbdjfabghagaaSxLombardref02None
import Derived.Test.YtohbdjfabghagaaSxLombardref02Neg
namespace Go.Proofs.Ytohbdjfabghagaa.S
open Go.RowKit Go.Proofs.YtohbdjfabghagaaW.PrintWords Go.Proofs.YtohbdjfabghagaaW.PrintLast Go.Proofs.YtohbdjfabghagaaW.PrintMore
attribute [local go_sem] max2_int min2_int max_two min_two max_three min_three max_four min_four   -- for this text's walks alone
attribute [local go_sem] Go.Proofs.Ytohbdjfabghagaa.XWalk.cell2
set_option linter.unusedVariables false
set_option linter.unusedSimpArgs false

/-! ### lombardref02_Compare: function 43 -/
-- IMPORT BigMath
theorem B.HasB.lt2 {w : World} {g N : Nat} {less : Bool} (h : B.HasB w g less N) : g < w.heap.size := (Array.getElem?_eq_some_iff.1 h).1
def lombardref02_Compare.S (a0 a1 b0 b1 : Int) : Bool × Nat := lombardref02_sum.v (B.less a0) (!B.less b0) (B.abs a0 a1) (B.abs b0 b1)
def lombardref02_Compare.f (a0 a1 b0 b1 : Int) : Option Int :=
  if -9223372036854775808 ≤ a0 ∧ a0 ≤ 9223372036854775807 ∧ 0 ≤ a1 ∧ a1 < 18446744073709551616 ∧ -9223372036854775808 ≤ b0 ∧ b0 ≤ 9223372036854775807 ∧ 0 ≤ b1 ∧ b1 < 18446744073709551616 then some (if decide ((lombardref02_Compare.S a0 a1 b0 b1).2 = 0) = true then 0 else if (lombardref02_Compare.S a0 a1 b0 b1).1 = true then -1 else 1) else none
set_option maxRecDepth 100000 in
set_option maxHeartbeats 8000000 in
theorem lombardref02_Compare.calls (a0 a1 b0 b1 r : Int) (w : World) (h : lombardref02_Compare.f a0 a1 b0 b1 = some r) : Calls Try.prog 43 #[.agg #[.int .i64 a0, .int .u64 a1], .agg #[.int .i64 b0, .int .u64 b1]] w fun e w' => e = .returned (.int .i64 r) ∧ Below w.heap.size w w' := by
  unfold lombardref02_Compare.f at h
  split at h
  · rename_i c
    obtain ⟨c1, c2, c3, c4, c5, c6, c7, c8⟩ := c
    have BA := Aside0.mk (fun W => lombardref02_big.calls a0 a1 c1 c2 c3 c4 W)
    have BB := Aside0.mk (fun W => lombardref02_big.calls b0 b1 c5 c6 c7 c8 W)
    have lx := lombardref02_Add.up (B.abs_lt c1 c2 c3 c4) (show 128 ≤ 260 by decide)
    have ly := lombardref02_Add.up (B.abs_lt c5 c6 c7 c8) (show 128 ≤ 260 by decide)
    have SM := Aside0.mk (fun W => lombardref02_sum.calls (B.less a0) (!B.less b0) (B.abs a0 a1) (B.abs b0 b1) lx ly W)
    have lz := lombardref02_Add.sum_lt (la := B.less a0) (lb := !B.less b0) rfl lx ly
    unfold lombardref02_Compare.S at h
    generalize B.abs a0 a1 = X at *
    generalize B.abs b0 b1 = Y at *
    generalize B.less a0 = la at *
    generalize B.less b0 = lb at *
    generalize (lombardref02_sum.v la (!lb) X Y).1 = l at *
    generalize (lombardref02_sum.v la (!lb) X Y).2 = N at *
    have NO := Aside0.mk (fun W => lombardref02_none.calls l N lz W)
    have R := Aside0.mk (Option.some.inj h)
    generalize decide (N = 0) = d at *
    clear h c1 c2 c3 c4 c5 c6 c7 c8 lx ly lz
    have k0 := blk_alloc (blk_new w (.cells #[.int .i64 a0, .int .u64 a1] 32)) (.cells #[.int .i64 b0, .int .u64 b1] 32)
    have k1 := blk_new (w.alloc (.cells #[.int .i64 a0, .int .u64 a1] 32)) (.cells #[.int .i64 b0, .int .u64 b1] 32)
    have bw1 := below_alloc (below_alloc (Below.refl w.heap.size w) (.cells #[.int .i64 a0, .int .u64 a1] 32)) (.cells #[.int .i64 b0, .int .u64 b1] 32)
    rw [World.size_alloc] at k1
    go_enter Try.func43, Try.ntmps43
    go_upto_region 1 with (fail)
    generalize (w.alloc (.cells #[.int .i64 a0, .int .u64 a1] 32)).alloc (.cells #[.int .i64 b0, .int .u64 b1] 32) = w1 at *
    have e0 := blk_cell k1 0
    have e1 := blk_cell k1 1
    go_upto_region 2 with (first | (go_at_call 52; (with_reducible refine (BB.out _).mono ?_); rintro e w2 ⟨rfl, h2⟩; have y4 := B.HasB.new0 w2) | ((with_reducible refine B.gateOp (.store 75 (.tmp 5) (.tmp 8)) rfl ?_); refine wpList_store_row rfl 75 (.tmp 5) (.tmp 8) rfl w2.heap.size (B.big lb Y) rfl rfl 75 _ y4 (B.infoB _ _) (by rw [B.big_size, B.big_size]) (B.plainB _ _) ?_))
    have k2 := blk_below k0 h2
    have b2 := below_then bw1 bw1.size h2
    have zl : w.heap.size < w2.heap.size := blk_lt k2
    have y5 := y4.row lb Y
    have k3 := (setRow_other _ w2.heap.size w.heap.size (B.big lb Y) (by omega)).trans (blk_alloc k2 (.cells Try.zeroCells75 75))
    have b3 := B.below_row (below_alloc b2 (.cells Try.zeroCells75 75)) (k := w2.heap.size) (by omega) (B.big lb Y)
    clear k0 k1 k2 bw1 b2 e0 e1 BB y4 h2
    obtain ⟨z, hz⟩ : ∃ z, z = w2.heap.size := ⟨_, rfl⟩
    rw [← hz] at y5 k3 b3 zl ⊢
    generalize (w2.alloc (.cells Try.zeroCells75 75)).setRow z (B.big lb Y) = w3 at *
    clear hz
    have c0 := y5.cell0
    have z0 := blk_frozen y5 0
    go_upto_region 3 with (fail)
    have y6 := y5.less (!lb)
    have k6 := blk_far k3 (p := ⟨z, 0, none⟩) (by show w.heap.size ≠ z; omega) (.bool (!lb))
    have b6 := below_set (j := 0) (v := .bool (!lb)) b3 (by omega : w.heap.size ≤ z)
    clear y5 k3 b3 c0 z0
    generalize w3.setCell ⟨z, 0, none⟩ (.bool (!lb)) = w4 at *
    obtain ⟨g, hg⟩ : ∃ g, g = w.heap.size := ⟨_, rfl⟩
    rw [← hg] at k6 b6 zl ⊢
    have HG := Aside0.mk hg
    have hS0 : w4.heap[g]? = some (.cells #[.int .i64 a0, .int .u64 a1] 32 (0, 0)) ∧ B.HasB w4 z (!lb) Y ∧ Below g w w4 := ⟨k6, y6, b6⟩
    clear k6 b6 y6 hg
    refine wp_region_held (S := fun W9 => W9.heap[g]? = some (.cells #[.int .i64 a0, .int .u64 a1] 32 (0, 0)) ∧ B.HasB W9 z (!lb) Y ∧ Below g w W9) (by kernel_rfl) ?_
    replace hS0 : (fun V9 : World => V9.heap[g]? = some (.cells #[.int .i64 a0, .int .u64 a1] 32 (0, 0)) ∧ B.HasB V9 z (!lb) Y ∧ Below g w V9) { w4 with drawn := w4.drawn + 1 } := ⟨hS0.1, hS0.2.1, hS0.2.2.drew⟩
    generalize ({ w4 with drawn := w4.drawn + 1 } : World) = W4 at *
    obtain ⟨m, hm⟩ : ∃ m, m = !lb := ⟨_, rfl⟩
    rw [← hm] at hS0 SM ⊢
    clear hm
    refine wpAnyH_take (i := 0) (v := .agg #[.int .i64 a0, .int .u64 a1]) rfl (by kernel_rfl) (by kernel_rfl) (by kernel_rfl) (fun _ _ _ h => h) (Or.inl ⟨by kernel_rfl, fun W9 hS => by have e0 := blk_cell hS.1 0; have e1 := blk_cell hS.1 1; go_simp⟩) hS0 ?_
    refine wpAnyH_take (i := 2) (v := .agg (B.big m Y)) rfl (by kernel_rfl) (by kernel_rfl) (by kernel_rfl) (fun _ _ _ h => h) (Or.inl ⟨by kernel_rfl, fun W9 hS => B.loadG (.tmp 5) rfl rfl hS.2.1⟩) hS0 ?_
    refine lombardref02_sum.norm (a' := { tmps := #[.agg #[.int .i64 a0, .int .u64 a1], .agg #[.int .i64 b0, .int .u64 b1], .pointer (some ⟨g, 0, none⟩), .pointer (some ⟨g + 1, 0, none⟩), .int .i64 0, .pointer (some ⟨z, 0, none⟩), undef, .agg #[.int .i64 b0, .int .u64 b1], .agg (B.big lb Y), .pointer (some ⟨z, 0, none⟩), .bool lb, .bool m, .pointer (some ⟨z, 0, none⟩), .agg #[.int .i64 a0, .int .u64 a1], undef, .agg (B.big m Y), undef, undef, undef, undef, undef], defers := [] }) (by kernel_rfl) ?_
    refine wpAnyH_all (rs := [1, 4]) (by kernel_rfl) (by simp) ?_
    intro ix hix
    rcases (by simpa using hix : ix = 1 ∨ ix = 4) with rfl | rfl
    · clear hix
      refine B.opCall1 rfl rfl (.agg #[.int .i64 a0, .int .u64 a1]) 52 Try.f52 (.tmp 13) _ Try.func52 (by kernel_rfl) rfl rfl rfl ?_
      refine (BA.out _).mono ?_
      rintro e W5 ⟨rfl, hb⟩
      replace hS0 : (fun V9 : World => V9.heap[g]? = some (.cells #[.int .i64 a0, .int .u64 a1] 32 (0, 0)) ∧ B.HasB V9 z m Y ∧ Below g w V9)  W5 := ⟨blk_below hS0.1 hb, hS0.2.1.below hb, hS0.2.2.trans (hb.mono (Nat.le_of_lt (blk_lt hS0.1)))⟩
      clear hb
      refine ⟨_, rfl, hS0, ?_⟩
      refine lombardref02_sum.norm (a' := { tmps := #[.agg #[.int .i64 a0, .int .u64 a1], .agg #[.int .i64 b0, .int .u64 b1], .pointer (some ⟨g, 0, none⟩), .pointer (some ⟨g + 1, 0, none⟩), .int .i64 0, .pointer (some ⟨z, 0, none⟩), undef, .agg #[.int .i64 b0, .int .u64 b1], .agg (B.big lb Y), .pointer (some ⟨z, 0, none⟩), .bool lb, .bool m, .pointer (some ⟨z, 0, none⟩), .agg #[.int .i64 a0, .int .u64 a1], .agg (B.big la X), .agg (B.big m Y), undef, undef, undef, undef, undef], defers := [] }) (by kernel_rfl) ?_
      refine wpAnyH_all (rs := [3, 4]) (by kernel_rfl) (by simp) ?_
      intro ix hix
      rcases (by simpa using hix : ix = 3 ∨ ix = 4) with rfl | rfl
      · clear hix
        refine B.opCall rfl rfl (.agg (B.big la X)) (.agg (B.big m Y)) 63 Try.f63 (.tmp 14) (.tmp 15) _ Try.func63 (by kernel_rfl) rfl rfl rfl rfl ?_
        refine (SM.out _).mono ?_
        rintro e W6 ⟨rfl, hb⟩
        replace hS0 : (fun V9 : World => V9.heap[g]? = some (.cells #[.int .i64 a0, .int .u64 a1] 32 (0, 0)) ∧ B.HasB V9 z m Y ∧ Below g w V9)  W6 := ⟨blk_below hS0.1 hb, hS0.2.1.below hb, hS0.2.2.trans (hb.mono (Nat.le_of_lt (blk_lt hS0.1)))⟩
        clear hb
        refine ⟨_, rfl, hS0, ?_⟩
        refine lombardref02_sum.norm (a' := { tmps := #[.agg #[.int .i64 a0, .int .u64 a1], .agg #[.int .i64 b0, .int .u64 b1], .pointer (some ⟨g, 0, none⟩), .pointer (some ⟨g + 1, 0, none⟩), .int .i64 0, .pointer (some ⟨z, 0, none⟩), undef, .agg #[.int .i64 b0, .int .u64 b1], .agg (B.big lb Y), .pointer (some ⟨z, 0, none⟩), .bool lb, .bool m, .pointer (some ⟨z, 0, none⟩), .agg #[.int .i64 a0, .int .u64 a1], .agg (B.big la X), .agg (B.big m Y), .agg (B.big l N), undef, undef, undef, undef], defers := [] }) (by kernel_rfl) ?_
        refine wpAnyH_all (rs := [4]) (by kernel_rfl) (by simp) ?_
        intro ix hix
        obtain rfl : ix = 4 := by simpa using hix
        clear hix
        refine B.step (v := .pointer (some ⟨W6.heap.size, 0, none⟩)) (w' := W6.alloc (.cells Try.zeroCells75 75 (0, 0))) rfl rfl (by go_simp) ?_
        have hu := B.HasB.new0 W6
        have ul : z < W6.heap.size := B.HasB.lt2 hS0.2.1
        have gl : g < W6.heap.size := blk_lt hS0.1
        replace hS0 : (fun V9 : World => V9.heap[g]? = some (.cells #[.int .i64 a0, .int .u64 a1] 32 (0, 0)) ∧ B.HasB V9 z m Y ∧ Below g w V9)  (W6.alloc (.cells Try.zeroCells75 75 (0, 0))) := ⟨blk_alloc hS0.1 _, hS0.2.1.alloc _, hS0.2.2.alloc (Nat.le_of_lt (blk_lt hS0.1)) _⟩
        generalize W6.heap.size = u at *
        generalize W6.alloc (.cells Try.zeroCells75 75 (0, 0)) = W7 at *
        refine ⟨hS0, ?_⟩
        refine lombardref02_sum.norm (a' := { tmps := #[.agg #[.int .i64 a0, .int .u64 a1], .agg #[.int .i64 b0, .int .u64 b1], .pointer (some ⟨g, 0, none⟩), .pointer (some ⟨g + 1, 0, none⟩), .int .i64 0, .pointer (some ⟨z, 0, none⟩), .pointer (some ⟨u, 0, none⟩), .agg #[.int .i64 b0, .int .u64 b1], .agg (B.big lb Y), .pointer (some ⟨z, 0, none⟩), .bool lb, .bool m, .pointer (some ⟨z, 0, none⟩), .agg #[.int .i64 a0, .int .u64 a1], .agg (B.big la X), .agg (B.big m Y), .agg (B.big l N), undef, undef, undef, undef], defers := [] }) (by kernel_rfl) ?_
        refine wpAnyH_all (rs := [5]) (by kernel_rfl) (by simp) ?_
        intro ix hix
        obtain rfl : ix = 5 := by simpa using hix
        clear hix
        refine B.opStoreB rfl rfl (.tmp 6) (.tmp 16) rfl u N 0 l false rfl rfl hu ?_
        have hn := hu.row l N
        replace hS0 : (fun V9 : World => V9.heap[g]? = some (.cells #[.int .i64 a0, .int .u64 a1] 32 (0, 0)) ∧ B.HasB V9 z m Y ∧ Below g w V9)  (W7.setRow u (B.big l N)) := ⟨(setRow_other _ _ _ _ (by omega)).trans hS0.1, hS0.2.1.setR _ (by omega), B.below_row hS0.2.2 (by omega) _⟩
        clear hu
        generalize W7.setRow u (B.big l N) = W8 at *
        refine ⟨hS0, ?_⟩
        refine lombardref02_sum.norm (a' := { tmps := #[.agg #[.int .i64 a0, .int .u64 a1], .agg #[.int .i64 b0, .int .u64 b1], .pointer (some ⟨g, 0, none⟩), .pointer (some ⟨g + 1, 0, none⟩), .int .i64 0, .pointer (some ⟨z, 0, none⟩), .pointer (some ⟨u, 0, none⟩), .agg #[.int .i64 b0, .int .u64 b1], .agg (B.big lb Y), .pointer (some ⟨z, 0, none⟩), .bool lb, .bool m, .pointer (some ⟨z, 0, none⟩), .agg #[.int .i64 a0, .int .u64 a1], .agg (B.big la X), .agg (B.big m Y), .agg (B.big l N), undef, undef, undef, undef], defers := [] }) (by kernel_rfl) ?_
        refine wpAnyH_done (by kernel_rfl) ?_ _
        rename_i K1 hK1
        show K1 _ _
        refine hK1 _ _ ?_
        clear hK1
        have b9 := hS0.2.2
        clear hS0
        cases d with
        | true =>
          have rr : 0 = r := R.out
          subst rr
          go_wp2_with (first | ((with_reducible refine B.gateOp (.load 75 (.tmp 6)) rfl ?_); refine B.wpLoadG rfl (.tmp 6) rfl u N _ rfl hn ?_) | (go_at_call 64; (with_reducible refine (NO.out _).mono ?_); rintro e w8 ⟨rfl, h8⟩))
          go_ret
          exact ⟨rfl, by rw [← HG.out]; exact b9.trans (h8.mono (by have := b9.size; have := HG.out; omega))⟩
        | false =>
          cases l with
          | true =>
            have rr : -1 = r := R.out
            subst rr
            go_wp2_with (first | ((with_reducible refine B.gateOp (.load 75 (.tmp 6)) rfl ?_); refine B.wpLoadG rfl (.tmp 6) rfl u N _ rfl hn ?_) | (go_at_call 64; (with_reducible refine (NO.out _).mono ?_); rintro e w8 ⟨rfl, h8⟩; have q8 := (hn.below h8).cell0))
            go_ret
            exact ⟨rfl, by rw [← HG.out]; exact b9.trans (h8.mono (by have := b9.size; have := HG.out; omega))⟩
          | false =>
            have rr : 1 = r := R.out
            subst rr
            go_wp2_with (first | ((with_reducible refine B.gateOp (.load 75 (.tmp 6)) rfl ?_); refine B.wpLoadG rfl (.tmp 6) rfl u N _ rfl hn ?_) | (go_at_call 64; (with_reducible refine (NO.out _).mono ?_); rintro e w8 ⟨rfl, h8⟩; have q8 := (hn.below h8).cell0))
            go_ret
            exact ⟨rfl, by rw [← HG.out]; exact b9.trans (h8.mono (by have := b9.size; have := HG.out; omega))⟩
      · clear hix
        refine B.step (v := .pointer (some ⟨W5.heap.size, 0, none⟩)) (w' := W5.alloc (.cells Try.zeroCells75 75 (0, 0))) rfl rfl (by go_simp) ?_
        have hu := B.HasB.new0 W5
        have ul : z < W5.heap.size := B.HasB.lt2 hS0.2.1
        have gl : g < W5.heap.size := blk_lt hS0.1
        replace hS0 : (fun V9 : World => V9.heap[g]? = some (.cells #[.int .i64 a0, .int .u64 a1] 32 (0, 0)) ∧ B.HasB V9 z m Y ∧ Below g w V9)  (W5.alloc (.cells Try.zeroCells75 75 (0, 0))) := ⟨blk_alloc hS0.1 _, hS0.2.1.alloc _, hS0.2.2.alloc (Nat.le_of_lt (blk_lt hS0.1)) _⟩
        generalize W5.heap.size = u at *
        generalize W5.alloc (.cells Try.zeroCells75 75 (0, 0)) = W6 at *
        refine ⟨hS0, ?_⟩
        refine lombardref02_sum.norm (a' := { tmps := #[.agg #[.int .i64 a0, .int .u64 a1], .agg #[.int .i64 b0, .int .u64 b1], .pointer (some ⟨g, 0, none⟩), .pointer (some ⟨g + 1, 0, none⟩), .int .i64 0, .pointer (some ⟨z, 0, none⟩), .pointer (some ⟨u, 0, none⟩), .agg #[.int .i64 b0, .int .u64 b1], .agg (B.big lb Y), .pointer (some ⟨z, 0, none⟩), .bool lb, .bool m, .pointer (some ⟨z, 0, none⟩), .agg #[.int .i64 a0, .int .u64 a1], .agg (B.big la X), .agg (B.big m Y), undef, undef, undef, undef, undef], defers := [] }) (by kernel_rfl) ?_
        refine wpAnyH_all (rs := [3]) (by kernel_rfl) (by simp) ?_
        intro ix hix
        obtain rfl : ix = 3 := by simpa using hix
        clear hix
        refine B.opCall rfl rfl (.agg (B.big la X)) (.agg (B.big m Y)) 63 Try.f63 (.tmp 14) (.tmp 15) _ Try.func63 (by kernel_rfl) rfl rfl rfl rfl ?_
        refine (SM.out _).mono ?_
        rintro e W7 ⟨rfl, hb⟩
        replace hu := hu.below hb
        replace hS0 : (fun V9 : World => V9.heap[g]? = some (.cells #[.int .i64 a0, .int .u64 a1] 32 (0, 0)) ∧ B.HasB V9 z m Y ∧ Below g w V9)  W7 := ⟨blk_below hS0.1 hb, hS0.2.1.below hb, hS0.2.2.trans (hb.mono (Nat.le_of_lt (blk_lt hS0.1)))⟩
        clear hb
        refine ⟨_, rfl, hS0, ?_⟩
        refine lombardref02_sum.norm (a' := { tmps := #[.agg #[.int .i64 a0, .int .u64 a1], .agg #[.int .i64 b0, .int .u64 b1], .pointer (some ⟨g, 0, none⟩), .pointer (some ⟨g + 1, 0, none⟩), .int .i64 0, .pointer (some ⟨z, 0, none⟩), .pointer (some ⟨u, 0, none⟩), .agg #[.int .i64 b0, .int .u64 b1], .agg (B.big lb Y), .pointer (some ⟨z, 0, none⟩), .bool lb, .bool m, .pointer (some ⟨z, 0, none⟩), .agg #[.int .i64 a0, .int .u64 a1], .agg (B.big la X), .agg (B.big m Y), .agg (B.big l N), undef, undef, undef, undef], defers := [] }) (by kernel_rfl) ?_
        refine wpAnyH_all (rs := [5]) (by kernel_rfl) (by simp) ?_
        intro ix hix
        obtain rfl : ix = 5 := by simpa using hix
        clear hix
        refine B.opStoreB rfl rfl (.tmp 6) (.tmp 16) rfl u N 0 l false rfl rfl hu ?_
        have hn := hu.row l N
        replace hS0 : (fun V9 : World => V9.heap[g]? = some (.cells #[.int .i64 a0, .int .u64 a1] 32 (0, 0)) ∧ B.HasB V9 z m Y ∧ Below g w V9)  (W7.setRow u (B.big l N)) := ⟨(setRow_other _ _ _ _ (by omega)).trans hS0.1, hS0.2.1.setR _ (by omega), B.below_row hS0.2.2 (by omega) _⟩
        clear hu
        generalize W7.setRow u (B.big l N) = W8 at *
        refine ⟨hS0, ?_⟩
        refine lombardref02_sum.norm (a' := { tmps := #[.agg #[.int .i64 a0, .int .u64 a1], .agg #[.int .i64 b0, .int .u64 b1], .pointer (some ⟨g, 0, none⟩), .pointer (some ⟨g + 1, 0, none⟩), .int .i64 0, .pointer (some ⟨z, 0, none⟩), .pointer (some ⟨u, 0, none⟩), .agg #[.int .i64 b0, .int .u64 b1], .agg (B.big lb Y), .pointer (some ⟨z, 0, none⟩), .bool lb, .bool m, .pointer (some ⟨z, 0, none⟩), .agg #[.int .i64 a0, .int .u64 a1], .agg (B.big la X), .agg (B.big m Y), .agg (B.big l N), undef, undef, undef, undef], defers := [] }) (by kernel_rfl) ?_
        refine wpAnyH_done (by kernel_rfl) ?_ _
        rename_i K1 hK1
        show K1 _ _
        refine hK1 _ _ ?_
        clear hK1
        have b9 := hS0.2.2
        clear hS0
        cases d with
        | true =>
          have rr : 0 = r := R.out
          subst rr
          go_wp2_with (first | ((with_reducible refine B.gateOp (.load 75 (.tmp 6)) rfl ?_); refine B.wpLoadG rfl (.tmp 6) rfl u N _ rfl hn ?_) | (go_at_call 64; (with_reducible refine (NO.out _).mono ?_); rintro e w8 ⟨rfl, h8⟩))
          go_ret
          exact ⟨rfl, by rw [← HG.out]; exact b9.trans (h8.mono (by have := b9.size; have := HG.out; omega))⟩
        | false =>
          cases l with
          | true =>
            have rr : -1 = r := R.out
            subst rr
            go_wp2_with (first | ((with_reducible refine B.gateOp (.load 75 (.tmp 6)) rfl ?_); refine B.wpLoadG rfl (.tmp 6) rfl u N _ rfl hn ?_) | (go_at_call 64; (with_reducible refine (NO.out _).mono ?_); rintro e w8 ⟨rfl, h8⟩; have q8 := (hn.below h8).cell0))
            go_ret
            exact ⟨rfl, by rw [← HG.out]; exact b9.trans (h8.mono (by have := b9.size; have := HG.out; omega))⟩
          | false =>
            have rr : 1 = r := R.out
            subst rr
            go_wp2_with (first | ((with_reducible refine B.gateOp (.load 75 (.tmp 6)) rfl ?_); refine B.wpLoadG rfl (.tmp 6) rfl u N _ rfl hn ?_) | (go_at_call 64; (with_reducible refine (NO.out _).mono ?_); rintro e w8 ⟨rfl, h8⟩; have q8 := (hn.below h8).cell0))
            go_ret
            exact ⟨rfl, by rw [← HG.out]; exact b9.trans (h8.mono (by have := b9.size; have := HG.out; omega))⟩
    · clear hix
      refine B.step (v := .pointer (some ⟨W4.heap.size, 0, none⟩)) (w' := W4.alloc (.cells Try.zeroCells75 75 (0, 0))) rfl rfl (by go_simp) ?_
      have hu := B.HasB.new0 W4
      have ul : z < W4.heap.size := B.HasB.lt2 hS0.2.1
      have gl : g < W4.heap.size := blk_lt hS0.1
      replace hS0 : (fun V9 : World => V9.heap[g]? = some (.cells #[.int .i64 a0, .int .u64 a1] 32 (0, 0)) ∧ B.HasB V9 z m Y ∧ Below g w V9)  (W4.alloc (.cells Try.zeroCells75 75 (0, 0))) := ⟨blk_alloc hS0.1 _, hS0.2.1.alloc _, hS0.2.2.alloc (Nat.le_of_lt (blk_lt hS0.1)) _⟩
      generalize W4.heap.size = u at *
      generalize W4.alloc (.cells Try.zeroCells75 75 (0, 0)) = W5 at *
      refine ⟨hS0, ?_⟩
      refine lombardref02_sum.norm (a' := { tmps := #[.agg #[.int .i64 a0, .int .u64 a1], .agg #[.int .i64 b0, .int .u64 b1], .pointer (some ⟨g, 0, none⟩), .pointer (some ⟨g + 1, 0, none⟩), .int .i64 0, .pointer (some ⟨z, 0, none⟩), .pointer (some ⟨u, 0, none⟩), .agg #[.int .i64 b0, .int .u64 b1], .agg (B.big lb Y), .pointer (some ⟨z, 0, none⟩), .bool lb, .bool m, .pointer (some ⟨z, 0, none⟩), .agg #[.int .i64 a0, .int .u64 a1], undef, .agg (B.big m Y), undef, undef, undef, undef, undef], defers := [] }) (by kernel_rfl) ?_
      refine wpAnyH_all (rs := [1]) (by kernel_rfl) (by simp) ?_
      intro ix hix
      obtain rfl : ix = 1 := by simpa using hix
      clear hix
      refine B.opCall1 rfl rfl (.agg #[.int .i64 a0, .int .u64 a1]) 52 Try.f52 (.tmp 13) _ Try.func52 (by kernel_rfl) rfl rfl rfl ?_
      refine (BA.out _).mono ?_
      rintro e W6 ⟨rfl, hb⟩
      replace hu := hu.below hb
      replace hS0 : (fun V9 : World => V9.heap[g]? = some (.cells #[.int .i64 a0, .int .u64 a1] 32 (0, 0)) ∧ B.HasB V9 z m Y ∧ Below g w V9)  W6 := ⟨blk_below hS0.1 hb, hS0.2.1.below hb, hS0.2.2.trans (hb.mono (Nat.le_of_lt (blk_lt hS0.1)))⟩
      clear hb
      refine ⟨_, rfl, hS0, ?_⟩
      refine lombardref02_sum.norm (a' := { tmps := #[.agg #[.int .i64 a0, .int .u64 a1], .agg #[.int .i64 b0, .int .u64 b1], .pointer (some ⟨g, 0, none⟩), .pointer (some ⟨g + 1, 0, none⟩), .int .i64 0, .pointer (some ⟨z, 0, none⟩), .pointer (some ⟨u, 0, none⟩), .agg #[.int .i64 b0, .int .u64 b1], .agg (B.big lb Y), .pointer (some ⟨z, 0, none⟩), .bool lb, .bool m, .pointer (some ⟨z, 0, none⟩), .agg #[.int .i64 a0, .int .u64 a1], .agg (B.big la X), .agg (B.big m Y), undef, undef, undef, undef, undef], defers := [] }) (by kernel_rfl) ?_
      refine wpAnyH_all (rs := [3]) (by kernel_rfl) (by simp) ?_
      intro ix hix
      obtain rfl : ix = 3 := by simpa using hix
      clear hix
      refine B.opCall rfl rfl (.agg (B.big la X)) (.agg (B.big m Y)) 63 Try.f63 (.tmp 14) (.tmp 15) _ Try.func63 (by kernel_rfl) rfl rfl rfl rfl ?_
      refine (SM.out _).mono ?_
      rintro e W7 ⟨rfl, hb⟩
      replace hu := hu.below hb
      replace hS0 : (fun V9 : World => V9.heap[g]? = some (.cells #[.int .i64 a0, .int .u64 a1] 32 (0, 0)) ∧ B.HasB V9 z m Y ∧ Below g w V9)  W7 := ⟨blk_below hS0.1 hb, hS0.2.1.below hb, hS0.2.2.trans (hb.mono (Nat.le_of_lt (blk_lt hS0.1)))⟩
      clear hb
      refine ⟨_, rfl, hS0, ?_⟩
      refine lombardref02_sum.norm (a' := { tmps := #[.agg #[.int .i64 a0, .int .u64 a1], .agg #[.int .i64 b0, .int .u64 b1], .pointer (some ⟨g, 0, none⟩), .pointer (some ⟨g + 1, 0, none⟩), .int .i64 0, .pointer (some ⟨z, 0, none⟩), .pointer (some ⟨u, 0, none⟩), .agg #[.int .i64 b0, .int .u64 b1], .agg (B.big lb Y), .pointer (some ⟨z, 0, none⟩), .bool lb, .bool m, .pointer (some ⟨z, 0, none⟩), .agg #[.int .i64 a0, .int .u64 a1], .agg (B.big la X), .agg (B.big m Y), .agg (B.big l N), undef, undef, undef, undef], defers := [] }) (by kernel_rfl) ?_
      refine wpAnyH_all (rs := [5]) (by kernel_rfl) (by simp) ?_
      intro ix hix
      obtain rfl : ix = 5 := by simpa using hix
      clear hix
      refine B.opStoreB rfl rfl (.tmp 6) (.tmp 16) rfl u N 0 l false rfl rfl hu ?_
      have hn := hu.row l N
      replace hS0 : (fun V9 : World => V9.heap[g]? = some (.cells #[.int .i64 a0, .int .u64 a1] 32 (0, 0)) ∧ B.HasB V9 z m Y ∧ Below g w V9)  (W7.setRow u (B.big l N)) := ⟨(setRow_other _ _ _ _ (by omega)).trans hS0.1, hS0.2.1.setR _ (by omega), B.below_row hS0.2.2 (by omega) _⟩
      clear hu
      generalize W7.setRow u (B.big l N) = W8 at *
      refine ⟨hS0, ?_⟩
      refine lombardref02_sum.norm (a' := { tmps := #[.agg #[.int .i64 a0, .int .u64 a1], .agg #[.int .i64 b0, .int .u64 b1], .pointer (some ⟨g, 0, none⟩), .pointer (some ⟨g + 1, 0, none⟩), .int .i64 0, .pointer (some ⟨z, 0, none⟩), .pointer (some ⟨u, 0, none⟩), .agg #[.int .i64 b0, .int .u64 b1], .agg (B.big lb Y), .pointer (some ⟨z, 0, none⟩), .bool lb, .bool m, .pointer (some ⟨z, 0, none⟩), .agg #[.int .i64 a0, .int .u64 a1], .agg (B.big la X), .agg (B.big m Y), .agg (B.big l N), undef, undef, undef, undef], defers := [] }) (by kernel_rfl) ?_
      refine wpAnyH_done (by kernel_rfl) ?_ _
      rename_i K1 hK1
      show K1 _ _
      refine hK1 _ _ ?_
      clear hK1
      have b9 := hS0.2.2
      clear hS0
      cases d with
      | true =>
        have rr : 0 = r := R.out
        subst rr
        go_wp2_with (first | ((with_reducible refine B.gateOp (.load 75 (.tmp 6)) rfl ?_); refine B.wpLoadG rfl (.tmp 6) rfl u N _ rfl hn ?_) | (go_at_call 64; (with_reducible refine (NO.out _).mono ?_); rintro e w8 ⟨rfl, h8⟩))
        go_ret
        exact ⟨rfl, by rw [← HG.out]; exact b9.trans (h8.mono (by have := b9.size; have := HG.out; omega))⟩
      | false =>
        cases l with
        | true =>
          have rr : -1 = r := R.out
          subst rr
          go_wp2_with (first | ((with_reducible refine B.gateOp (.load 75 (.tmp 6)) rfl ?_); refine B.wpLoadG rfl (.tmp 6) rfl u N _ rfl hn ?_) | (go_at_call 64; (with_reducible refine (NO.out _).mono ?_); rintro e w8 ⟨rfl, h8⟩; have q8 := (hn.below h8).cell0))
          go_ret
          exact ⟨rfl, by rw [← HG.out]; exact b9.trans (h8.mono (by have := b9.size; have := HG.out; omega))⟩
        | false =>
          have rr : 1 = r := R.out
          subst rr
          go_wp2_with (first | ((with_reducible refine B.gateOp (.load 75 (.tmp 6)) rfl ?_); refine B.wpLoadG rfl (.tmp 6) rfl u N _ rfl hn ?_) | (go_at_call 64; (with_reducible refine (NO.out _).mono ?_); rintro e w8 ⟨rfl, h8⟩; have q8 := (hn.below h8).cell0))
          go_ret
          exact ⟨rfl, by rw [← HG.out]; exact b9.trans (h8.mono (by have := b9.size; have := HG.out; omega))⟩
  · exact absurd h (by simp)


end Go.Proofs.Ytohbdjfabghagaa.S
