/- Printed by a program of this session out of the translation: what each function called here computes, and that its call comes to just that. Conditions: none beyond those that each theorem names. -/
import Derived.Test.YtohbdjfabghagaaSx0
import Derived.Test.YtohbdjfabghagaaSxLombardref02Size
import Derived.Test.YtohbdjfabghagaaSxLombardref02Big
import Derived.Test.YtohbdjfabghagaaSxLombardref02Div
import Derived.Test.YtohbdjfabghagaaSxLombardref02Back
import Derived.Test.YtohbdjfabghagaaSxLombardref02Sum
namespace Go.Proofs.Ytohbdjfabghagaa.S
open Go.RowKit Go.Proofs.YtohbdjfabghagaaW.PrintWords Go.Proofs.YtohbdjfabghagaaW.PrintLast Go.Proofs.YtohbdjfabghagaaW.PrintMore
attribute [local go_sem] max2_int min2_int max_two min_two max_three min_three max_four min_four   -- for this text's walks alone
attribute [local go_sem] Go.Proofs.Ytohbdjfabghagaa.XWalk.cell2
set_option linter.unusedVariables false
set_option linter.unusedSimpArgs false

/-! ### lombardref02_Add: function 41 -/
-- IMPORT BigMath
theorem B.step {P : Program} {ops : Array Oper} {Q : Exit → Act → World → Prop} {i : Nat} {o : Oper} {K : Act → World → Prop} {a : Act} {w w' : World} {v : Value} (hi : ops[i]? = some o) (hg : o.guard = none) (hr : (execOp a.eval o).run P w = .ok (.value v) w') (h : K (a.put o.dst v) w') : wpOp P ops Q i K a w := by
  have hw : Region.wanted o (yielded ops a.tmps) = true := by simp [Region.wanted, hg]
  unfold wpOp
  simp only [hi]
  rw [if_pos hw]
  refine Or.inl ?_
  unfold Oper.wp
  rw [hr]
  exact h
theorem B.opCall1 {ops : Array Oper} {i : Nat} {o : Oper} {K : Act → World → Prop} {Q : Exit → Act → World → Prop} {a : Act} {w : World} (hi : ops[i]? = some o) (hg : o.guard = none) (u : Value) (f : FuncId) (fn : Func) (x : Operand) (ts : Array TypeId) (hf : Try.prog.funcs[f]? = some fn) (hname : (fn.name == "runtime.NumGoroutine") = false) (hb : fn.body.isSome = true)
    (ho : o.op = .call { callee := .value (.func f), args := #[x], argTypes := ts }) (hx : a.eval x = u) (h : Calls Try.prog f #[u] w fun e w' => ∃ z, e = .returned z ∧ K (a.put o.dst z) w') : wpOp Try.prog ops Q i K a w := by
  have hw : Region.wanted o (yielded ops a.tmps) = true := by simp [Region.wanted, hg]
  have t := goes_ (P := Try.prog) (ops := ops) (Q := Q) hf hname hb #[u] hw rfl ho (by simp [hx]) h
  rw [if_pos hw] at t
  unfold wpOp
  simp only [hi]
  rw [if_pos hw]
  exact Or.inl t
theorem B.opStoreI {ops : Array Oper} {i : Nat} {o : Oper} {K : Act → World → Prop} {Q : Exit → Act → World → Prop} {a : Act} {w : World} (hi : ops[i]? = some o) (hg : o.guard = none) (x y : Operand) (ho : o.op = .store 32 x y)
    (g : Nat) (p q : Int) (old : Array Value) (hs : old.size = 2) (hx : a.eval x = .pointer (some ⟨g, 0, none⟩)) (hy : a.eval y = .agg #[.int .i64 p, .int .u64 q]) (hold : w.heap[g]? = some (.cells old 32 (0, 0))) (h : K (a.put o.dst undef) (w.setRow g #[.int .i64 p, .int .u64 q])) : wpOp Try.prog ops Q i K a w := by
  unfold wpOp
  simp only [hi]
  rw [if_pos (by simp [Region.wanted, hg])]
  exact Or.inl (wp_store_row (P := Try.prog) 32 x y ho g #[.int .i64 p, .int .u64 q] hx hy 32 old hold (by kernel_rfl) (by rw [hs]; rfl) (by simp [Value.oneCell']) h)
def lombardref02_Add.S (a0 a1 b0 b1 : Int) : Bool × Nat := lombardref02_sum.v (B.less a0) (B.less b0) (B.abs a0 a1) (B.abs b0 b1)
def lombardref02_Add.f (a0 a1 b0 b1 : Int) : Option (Int × Int × Int) :=
  if -9223372036854775808 ≤ a0 ∧ a0 ≤ 9223372036854775807 ∧ 0 ≤ a1 ∧ a1 < 18446744073709551616 ∧ -9223372036854775808 ≤ b0 ∧ b0 ≤ 9223372036854775807 ∧ 0 ≤ b1 ∧ b1 < 18446744073709551616 then some (lombardref02_back.hi (lombardref02_Add.S a0 a1 b0 b1).1 (lombardref02_Add.S a0 a1 b0 b1).2, lombardref02_back.lo (lombardref02_Add.S a0 a1 b0 b1).1 (lombardref02_Add.S a0 a1 b0 b1).2, if lombardref02_back.bad (lombardref02_Add.S a0 a1 b0 b1).1 (lombardref02_Add.S a0 a1 b0 b1).2 = true then 3 else 0) else none
theorem lombardref02_Add.up {n m k : Nat} (h : n < 2 ^ m) (hk : m ≤ k) : n < 2 ^ k := Nat.lt_of_lt_of_le h (Nat.pow_le_pow_right (by decide) hk)
theorem lombardref02_Add.sum_lt {la lb : Bool} {X Y k : Nat} (hk : k = 260) (hX : X < 2 ^ k) (hY : Y < 2 ^ k) : (lombardref02_sum.v la lb X Y).2 < 2 ^ k := by
  subst hk
  unfold lombardref02_sum.v
  split
  · exact Nat.mod_lt _ (Nat.two_pow_pos 260)
  · split
    · exact Nat.lt_of_le_of_lt (Nat.sub_le _ _) hX
    · exact Nat.lt_of_le_of_lt (Nat.sub_le _ _) hY
/-- what a number that is beyond has for its words -/
theorem lombardref02_back.zero {l : Bool} {N : Nat} (h : lombardref02_back.bad l N = true) : lombardref02_back.hi l N = 0 ∧ lombardref02_back.lo l N = 0 := by
  unfold lombardref02_back.hi lombardref02_back.lo
  rw [if_pos h, if_pos h]
  exact ⟨rfl, rfl⟩
set_option maxRecDepth 100000 in
set_option maxHeartbeats 8000000 in
theorem lombardref02_Add.calls (a0 a1 b0 b1 r1 r2 r3 : Int) (w : World) (h : lombardref02_Add.f a0 a1 b0 b1 = some (r1, r2, r3)) : Calls Try.prog 41 #[.agg #[.int .i64 a0, .int .u64 a1], .agg #[.int .i64 b0, .int .u64 b1]] w fun e w' => e = .returned (.tuple #[.agg #[.int .i64 r1, .int .u64 r2], .int .i64 r3]) ∧ Below w.heap.size w w' := by
  unfold lombardref02_Add.f at h
  split at h
  · rename_i c
    obtain ⟨c1, c2, c3, c4, c5, c6, c7, c8⟩ := c
    have BA := Aside0.mk (fun W => lombardref02_big.calls a0 a1 c1 c2 c3 c4 W)
    have BB := Aside0.mk (fun W => lombardref02_big.calls b0 b1 c5 c6 c7 c8 W)
    have lx := lombardref02_Add.up (B.abs_lt c1 c2 c3 c4) (show 128 ≤ 260 by decide)
    have ly := lombardref02_Add.up (B.abs_lt c5 c6 c7 c8) (show 128 ≤ 260 by decide)
    have SM := Aside0.mk (fun W => lombardref02_sum.calls (B.less a0) (B.less b0) (B.abs a0 a1) (B.abs b0 b1) lx ly W)
    have lz := lombardref02_Add.sum_lt (la := B.less a0) (lb := B.less b0) rfl lx ly
    unfold lombardref02_Add.S at h
    generalize B.abs a0 a1 = X at *
    generalize B.abs b0 b1 = Y at *
    generalize B.less a0 = la at *
    generalize B.less b0 = lb at *
    generalize (lombardref02_sum.v la lb X Y).1 = l at *
    generalize (lombardref02_sum.v la lb X Y).2 = N at *
    have BK := Aside0.mk (fun W => lombardref02_back.calls l N lz W)
    have Z0 := Aside0.mk (fun h : lombardref02_back.bad l N = true => lombardref02_back.zero h)
    generalize lombardref02_back.hi l N = p at *
    generalize lombardref02_back.lo l N = q at *
    have h2 := Option.some.inj h
    have R3 := Aside0.mk (Prod.mk.inj (Prod.mk.inj h2).2).2
    obtain rfl := (Prod.mk.inj h2).1
    obtain rfl := (Prod.mk.inj (Prod.mk.inj h2).2).1
    obtain ⟨ok, hok⟩ : ∃ ok, ok = !lombardref02_back.bad l N := ⟨_, rfl⟩
    rw [← hok] at BK
    rw [show lombardref02_back.bad l N = !ok by rw [hok, Bool.not_not]] at Z0 R3
    clear hok
    clear h h2 c1 c2 c3 c4 c5 c6 c7 c8 lx ly lz
    go_enter Try.func41, Try.ntmps41
    go_upto_region 1 with (fail)
    obtain ⟨g, hg⟩ : ∃ g, g = w.heap.size := ⟨_, rfl⟩
    have n1 := blk_alloc (blk_alloc (blk_new w (.cells #[.int .i64 a0, .int .u64 a1] 32)) (.cells #[.int .i64 b0, .int .u64 b1] 32)) (.cells #[.int .i64 0, .int .u64 0] 32)
    have n2 := blk_alloc (blk_new (w.alloc (.cells #[.int .i64 a0, .int .u64 a1] 32)) (.cells #[.int .i64 b0, .int .u64 b1] 32)) (.cells #[.int .i64 0, .int .u64 0] 32)
    have n3 := blk_new ((w.alloc (.cells #[.int .i64 a0, .int .u64 a1] 32)).alloc (.cells #[.int .i64 b0, .int .u64 b1] 32)) (.cells #[.int .i64 0, .int .u64 0] 32)
    have y := below_alloc (below_alloc (below_alloc (Below.refl w.heap.size w) (.cells #[.int .i64 a0, .int .u64 a1] 32)) (.cells #[.int .i64 b0, .int .u64 b1] 32)) (.cells #[.int .i64 0, .int .u64 0] 32)
    rw [World.size_alloc] at n2 n3
    rw [World.size_alloc] at n3
    rw [← hg] at n1 n2 n3 y ⊢
    have HG := Aside0.mk hg
    generalize ((w.alloc (.cells #[.int .i64 a0, .int .u64 a1] 32)).alloc (.cells #[.int .i64 b0, .int .u64 b1] 32)).alloc (.cells #[.int .i64 0, .int .u64 0] 32) = W1 at *
    have hS0 : W1.heap[g]? = some (.cells #[.int .i64 a0, .int .u64 a1] 32 (0, 0)) ∧ W1.heap[g + 1]? = some (.cells #[.int .i64 b0, .int .u64 b1] 32 (0, 0)) ∧ W1.heap[g + 1 + 1]? = some (.cells #[.int .i64 0, .int .u64 0] 32 (0, 0)) ∧ Below g w W1 := ⟨n1, n2, n3, y⟩
    clear n1 n2 n3 y hg
    refine wp_region_held (S := fun W9 => W9.heap[g]? = some (.cells #[.int .i64 a0, .int .u64 a1] 32 (0, 0)) ∧ W9.heap[g + 1]? = some (.cells #[.int .i64 b0, .int .u64 b1] 32 (0, 0)) ∧ W9.heap[g + 1 + 1]? = some (.cells #[.int .i64 0, .int .u64 0] 32 (0, 0)) ∧ Below g w W9) (by kernel_rfl) ?_
    replace hS0 : { W1 with drawn := W1.drawn + 1 }.heap[g]? = some (.cells #[.int .i64 a0, .int .u64 a1] 32 (0, 0)) ∧ { W1 with drawn := W1.drawn + 1 }.heap[g + 1]? = some (.cells #[.int .i64 b0, .int .u64 b1] 32 (0, 0)) ∧ { W1 with drawn := W1.drawn + 1 }.heap[g + 1 + 1]? = some (.cells #[.int .i64 0, .int .u64 0] 32 (0, 0)) ∧ Below g w { W1 with drawn := W1.drawn + 1 } := ⟨hS0.1, hS0.2.1, hS0.2.2.1, hS0.2.2.2.drew⟩
    generalize ({ W1 with drawn := W1.drawn + 1 } : World) = W4 at *
    refine wpAnyH_take (i := 0) (v := .agg #[.int .i64 a0, .int .u64 a1]) rfl (by kernel_rfl) (by kernel_rfl) (by kernel_rfl) (fun _ _ _ h => h) (Or.inl ⟨by kernel_rfl, fun W9 hS => by have e0 := blk_cell hS.1 0; have e1 := blk_cell hS.1 1; go_simp⟩) hS0 ?_
    refine wpAnyH_take (i := 2) (v := .agg #[.int .i64 b0, .int .u64 b1]) rfl (by kernel_rfl) (by kernel_rfl) (by kernel_rfl) (fun _ _ _ h => h) (Or.inl ⟨by kernel_rfl, fun W9 hS => by have e0 := blk_cell hS.2.1 0; have e1 := blk_cell hS.2.1 1; go_simp⟩) hS0 ?_
    refine lombardref02_sum.norm (a' := { tmps := #[.agg #[.int .i64 a0, .int .u64 a1], .agg #[.int .i64 b0, .int .u64 b1], .pointer (some ⟨g, 0, none⟩), .pointer (some ⟨g + 1, 0, none⟩), .pointer (some ⟨g + 1 + 1, 0, none⟩), .int .i64 0, undef, undef, undef, .agg #[.int .i64 a0, .int .u64 a1], undef, .agg #[.int .i64 b0, .int .u64 b1], undef, undef, undef, undef, undef, undef, undef, undef, undef], defers := [] }) (by kernel_rfl) ?_
    refine wpAnyH_all (rs := [1, 9]) (by kernel_rfl) (by simp) ?_
    intro ix hix
    rcases (by simpa using hix : ix = 1 ∨ ix = 9) with rfl | rfl
    · clear hix
      refine B.opCall1 rfl rfl (.agg #[.int .i64 a0, .int .u64 a1]) 52 Try.f52 (.tmp 9) _ Try.func52 (by kernel_rfl) rfl rfl rfl ?_
      refine (BA.out _).mono ?_
      rintro e W5 ⟨rfl, hb⟩
      replace hS0 : (fun V9 : World => V9.heap[g]? = some (.cells #[.int .i64 a0, .int .u64 a1] 32 (0, 0)) ∧ V9.heap[g + 1]? = some (.cells #[.int .i64 b0, .int .u64 b1] 32 (0, 0)) ∧ V9.heap[g + 1 + 1]? = some (.cells #[.int .i64 0, .int .u64 0] 32 (0, 0)) ∧ Below g w V9) W5 := ⟨blk_below hS0.1 hb, blk_below hS0.2.1 hb, blk_below hS0.2.2.1 hb, hS0.2.2.2.trans (hb.mono (Nat.le_of_lt (blk_lt hS0.1)))⟩
      clear hb
      refine ⟨_, rfl, hS0, ?_⟩
      refine lombardref02_sum.norm (a' := { tmps := #[.agg #[.int .i64 a0, .int .u64 a1], .agg #[.int .i64 b0, .int .u64 b1], .pointer (some ⟨g, 0, none⟩), .pointer (some ⟨g + 1, 0, none⟩), .pointer (some ⟨g + 1 + 1, 0, none⟩), .int .i64 0, undef, undef, undef, .agg #[.int .i64 a0, .int .u64 a1], .agg (B.big la X), .agg #[.int .i64 b0, .int .u64 b1], undef, undef, undef, undef, undef, undef, undef, undef, undef], defers := [] }) (by kernel_rfl) ?_
      refine wpAnyH_all (rs := [3, 9]) (by kernel_rfl) (by simp) ?_
      intro ix hix
      rcases (by simpa using hix : ix = 3 ∨ ix = 9) with rfl | rfl
      · clear hix
        refine B.opCall1 rfl rfl (.agg #[.int .i64 b0, .int .u64 b1]) 52 Try.f52 (.tmp 11) _ Try.func52 (by kernel_rfl) rfl rfl rfl ?_
        refine (BB.out _).mono ?_
        rintro e W6 ⟨rfl, hb⟩
        replace hS0 : (fun V9 : World => V9.heap[g]? = some (.cells #[.int .i64 a0, .int .u64 a1] 32 (0, 0)) ∧ V9.heap[g + 1]? = some (.cells #[.int .i64 b0, .int .u64 b1] 32 (0, 0)) ∧ V9.heap[g + 1 + 1]? = some (.cells #[.int .i64 0, .int .u64 0] 32 (0, 0)) ∧ Below g w V9) W6 := ⟨blk_below hS0.1 hb, blk_below hS0.2.1 hb, blk_below hS0.2.2.1 hb, hS0.2.2.2.trans (hb.mono (Nat.le_of_lt (blk_lt hS0.1)))⟩
        clear hb
        refine ⟨_, rfl, hS0, ?_⟩
        refine lombardref02_sum.norm (a' := { tmps := #[.agg #[.int .i64 a0, .int .u64 a1], .agg #[.int .i64 b0, .int .u64 b1], .pointer (some ⟨g, 0, none⟩), .pointer (some ⟨g + 1, 0, none⟩), .pointer (some ⟨g + 1 + 1, 0, none⟩), .int .i64 0, undef, undef, undef, .agg #[.int .i64 a0, .int .u64 a1], .agg (B.big la X), .agg #[.int .i64 b0, .int .u64 b1], .agg (B.big lb Y), undef, undef, undef, undef, undef, undef, undef, undef], defers := [] }) (by kernel_rfl) ?_
        refine wpAnyH_all (rs := [4, 9]) (by kernel_rfl) (by simp) ?_
        intro ix hix
        rcases (by simpa using hix : ix = 4 ∨ ix = 9) with rfl | rfl
        · clear hix
          refine B.opCall rfl rfl (.agg (B.big la X)) (.agg (B.big lb Y)) 63 Try.f63 (.tmp 10) (.tmp 12) _ Try.func63 (by kernel_rfl) rfl rfl rfl rfl ?_
          refine (SM.out _).mono ?_
          rintro e W7 ⟨rfl, hb⟩
          replace hS0 : (fun V9 : World => V9.heap[g]? = some (.cells #[.int .i64 a0, .int .u64 a1] 32 (0, 0)) ∧ V9.heap[g + 1]? = some (.cells #[.int .i64 b0, .int .u64 b1] 32 (0, 0)) ∧ V9.heap[g + 1 + 1]? = some (.cells #[.int .i64 0, .int .u64 0] 32 (0, 0)) ∧ Below g w V9) W7 := ⟨blk_below hS0.1 hb, blk_below hS0.2.1 hb, blk_below hS0.2.2.1 hb, hS0.2.2.2.trans (hb.mono (Nat.le_of_lt (blk_lt hS0.1)))⟩
          clear hb
          refine ⟨_, rfl, hS0, ?_⟩
          refine lombardref02_sum.norm (a' := { tmps := #[.agg #[.int .i64 a0, .int .u64 a1], .agg #[.int .i64 b0, .int .u64 b1], .pointer (some ⟨g, 0, none⟩), .pointer (some ⟨g + 1, 0, none⟩), .pointer (some ⟨g + 1 + 1, 0, none⟩), .int .i64 0, undef, undef, undef, .agg #[.int .i64 a0, .int .u64 a1], .agg (B.big la X), .agg #[.int .i64 b0, .int .u64 b1], .agg (B.big lb Y), .agg (B.big l N), undef, undef, undef, undef, undef, undef, undef], defers := [] }) (by kernel_rfl) ?_
          refine wpAnyH_all (rs := [5, 9]) (by kernel_rfl) (by simp) ?_
          intro ix hix
          rcases (by simpa using hix : ix = 5 ∨ ix = 9) with rfl | rfl
          · clear hix
            refine B.opCall1 rfl rfl (.agg (B.big l N)) 62 Try.f62 (.tmp 13) _ Try.func62 (by kernel_rfl) rfl rfl rfl ?_
            refine (BK.out _).mono ?_
            rintro e W8 ⟨rfl, hb⟩
            replace hS0 : (fun V9 : World => V9.heap[g]? = some (.cells #[.int .i64 a0, .int .u64 a1] 32 (0, 0)) ∧ V9.heap[g + 1]? = some (.cells #[.int .i64 b0, .int .u64 b1] 32 (0, 0)) ∧ V9.heap[g + 1 + 1]? = some (.cells #[.int .i64 0, .int .u64 0] 32 (0, 0)) ∧ Below g w V9) W8 := ⟨blk_below hS0.1 hb, blk_below hS0.2.1 hb, blk_below hS0.2.2.1 hb, hS0.2.2.2.trans (hb.mono (Nat.le_of_lt (blk_lt hS0.1)))⟩
            clear hb
            refine ⟨_, rfl, hS0, ?_⟩
            refine lombardref02_sum.norm (a' := { tmps := #[.agg #[.int .i64 a0, .int .u64 a1], .agg #[.int .i64 b0, .int .u64 b1], .pointer (some ⟨g, 0, none⟩), .pointer (some ⟨g + 1, 0, none⟩), .pointer (some ⟨g + 1 + 1, 0, none⟩), .int .i64 0, undef, undef, undef, .agg #[.int .i64 a0, .int .u64 a1], .agg (B.big la X), .agg #[.int .i64 b0, .int .u64 b1], .agg (B.big lb Y), .agg (B.big l N), .tuple #[.agg #[.int .i64 p, .int .u64 q], .bool ok], undef, undef, undef, undef, undef, undef], defers := [] }) (by kernel_rfl) ?_
            refine wpAnyH_take (i := 6) (v := .tuple #[.agg #[.int .i64 p, .int .u64 q], .bool ok]) rfl (by kernel_rfl) (by kernel_rfl) (by kernel_rfl) (fun _ _ _ h => h) (Or.inl ⟨by kernel_rfl, fun W9 hS => by go_simp⟩) hS0 ?_
            refine lombardref02_sum.norm (a' := { tmps := #[.agg #[.int .i64 a0, .int .u64 a1], .agg #[.int .i64 b0, .int .u64 b1], .pointer (some ⟨g, 0, none⟩), .pointer (some ⟨g + 1, 0, none⟩), .pointer (some ⟨g + 1 + 1, 0, none⟩), .int .i64 0, undef, undef, .tuple #[.agg #[.int .i64 p, .int .u64 q], .bool ok], .agg #[.int .i64 a0, .int .u64 a1], .agg (B.big la X), .agg #[.int .i64 b0, .int .u64 b1], .agg (B.big lb Y), .agg (B.big l N), .tuple #[.agg #[.int .i64 p, .int .u64 q], .bool ok], undef, undef, undef, undef, undef, undef], defers := [] }) (by kernel_rfl) ?_
            refine wpAnyH_take (i := 7) (v := .agg #[.int .i64 p, .int .u64 q]) rfl (by kernel_rfl) (by kernel_rfl) (by kernel_rfl) (fun _ _ _ h => h) (Or.inl ⟨by kernel_rfl, fun W9 hS => by go_simp⟩) hS0 ?_
            refine wpAnyH_take (i := 8) (v := .bool ok) rfl (by kernel_rfl) (by kernel_rfl) (by kernel_rfl) (fun _ _ _ h => h) (Or.inl ⟨by kernel_rfl, fun W9 hS => by go_simp⟩) hS0 ?_
            refine lombardref02_sum.norm (a' := { tmps := #[.agg #[.int .i64 a0, .int .u64 a1], .agg #[.int .i64 b0, .int .u64 b1], .pointer (some ⟨g, 0, none⟩), .pointer (some ⟨g + 1, 0, none⟩), .pointer (some ⟨g + 1 + 1, 0, none⟩), .int .i64 0, undef, undef, .tuple #[.agg #[.int .i64 p, .int .u64 q], .bool ok], .agg #[.int .i64 a0, .int .u64 a1], .agg (B.big la X), .agg #[.int .i64 b0, .int .u64 b1], .agg (B.big lb Y), .agg (B.big l N), .tuple #[.agg #[.int .i64 p, .int .u64 q], .bool ok], .agg #[.int .i64 p, .int .u64 q], .bool ok, undef, undef, undef, undef], defers := [] }) (by kernel_rfl) ?_
            refine wpAnyH_all (rs := [9]) (by kernel_rfl) (by simp) ?_
            intro ix hix
            obtain rfl : ix = 9 := by simpa using hix
            clear hix
            refine B.step (v := .pointer (some ⟨W8.heap.size, 0, none⟩)) (w' := W8.alloc (.cells #[.int .i64 0, .int .u64 0] 32 (0, 0))) rfl rfl (by go_simp) ?_
            have hz := blk_new W8 (.cells #[.int .i64 0, .int .u64 0] 32 (0, 0))
            have zl : g + 1 + 1 < W8.heap.size := blk_lt hS0.2.2.1
            replace hS0 : (fun V9 : World => V9.heap[g]? = some (.cells #[.int .i64 a0, .int .u64 a1] 32 (0, 0)) ∧ V9.heap[g + 1]? = some (.cells #[.int .i64 b0, .int .u64 b1] 32 (0, 0)) ∧ V9.heap[g + 1 + 1]? = some (.cells #[.int .i64 0, .int .u64 0] 32 (0, 0)) ∧ Below g w V9) (W8.alloc (.cells #[.int .i64 0, .int .u64 0] 32 (0, 0))) := ⟨blk_alloc hS0.1 _, blk_alloc hS0.2.1 _, blk_alloc hS0.2.2.1 _, hS0.2.2.2.alloc (Nat.le_of_lt (blk_lt hS0.1)) _⟩
            generalize W8.heap.size = z at *
            generalize W8.alloc (.cells #[.int .i64 0, .int .u64 0] 32 (0, 0)) = W9 at *
            refine ⟨hS0, ?_⟩
            refine lombardref02_sum.norm (a' := { tmps := #[.agg #[.int .i64 a0, .int .u64 a1], .agg #[.int .i64 b0, .int .u64 b1], .pointer (some ⟨g, 0, none⟩), .pointer (some ⟨g + 1, 0, none⟩), .pointer (some ⟨g + 1 + 1, 0, none⟩), .int .i64 0, .pointer (some ⟨z, 0, none⟩), undef, .tuple #[.agg #[.int .i64 p, .int .u64 q], .bool ok], .agg #[.int .i64 a0, .int .u64 a1], .agg (B.big la X), .agg #[.int .i64 b0, .int .u64 b1], .agg (B.big lb Y), .agg (B.big l N), .tuple #[.agg #[.int .i64 p, .int .u64 q], .bool ok], .agg #[.int .i64 p, .int .u64 q], .bool ok, undef, undef, undef, undef], defers := [] }) (by kernel_rfl) ?_
            refine wpAnyH_all (rs := [10]) (by kernel_rfl) (by simp) ?_
            intro ix hix
            obtain rfl : ix = 10 := by simpa using hix
            clear hix
            refine B.opStoreI rfl rfl (.tmp 6) (.tmp 15) rfl z p q _ (by rfl) rfl rfl hz ?_
            have hn := setRow_heap W9 z _ #[.int .i64 p, .int .u64 q] _ _ hz
            replace hS0 : (fun V9 : World => V9.heap[g]? = some (.cells #[.int .i64 a0, .int .u64 a1] 32 (0, 0)) ∧ V9.heap[g + 1]? = some (.cells #[.int .i64 b0, .int .u64 b1] 32 (0, 0)) ∧ V9.heap[g + 1 + 1]? = some (.cells #[.int .i64 0, .int .u64 0] 32 (0, 0)) ∧ Below g w V9) (W9.setRow z #[.int .i64 p, .int .u64 q]) := ⟨(setRow_other _ _ _ _ (by omega)).trans hS0.1, (setRow_other _ _ _ _ (by omega)).trans hS0.2.1, (setRow_other _ _ _ _ (by omega)).trans hS0.2.2.1, B.below_row hS0.2.2.2 (by omega) _⟩
            clear hz
            generalize W9.setRow z #[.int .i64 p, .int .u64 q] = W10 at *
            refine ⟨hS0, ?_⟩
            refine lombardref02_sum.norm (a' := { tmps := #[.agg #[.int .i64 a0, .int .u64 a1], .agg #[.int .i64 b0, .int .u64 b1], .pointer (some ⟨g, 0, none⟩), .pointer (some ⟨g + 1, 0, none⟩), .pointer (some ⟨g + 1 + 1, 0, none⟩), .int .i64 0, .pointer (some ⟨z, 0, none⟩), undef, .tuple #[.agg #[.int .i64 p, .int .u64 q], .bool ok], .agg #[.int .i64 a0, .int .u64 a1], .agg (B.big la X), .agg #[.int .i64 b0, .int .u64 b1], .agg (B.big lb Y), .agg (B.big l N), .tuple #[.agg #[.int .i64 p, .int .u64 q], .bool ok], .agg #[.int .i64 p, .int .u64 q], .bool ok, undef, undef, undef, undef], defers := [] }) (by kernel_rfl) ?_
            refine wpAnyH_take (i := 11) (v := .bool ok) rfl (by kernel_rfl) (by kernel_rfl) (by kernel_rfl) (fun _ _ _ h => h) (Or.inl ⟨by kernel_rfl, fun W9 hS => by go_simp⟩) hS0 ?_
            refine lombardref02_sum.norm (a' := { tmps := #[.agg #[.int .i64 a0, .int .u64 a1], .agg #[.int .i64 b0, .int .u64 b1], .pointer (some ⟨g, 0, none⟩), .pointer (some ⟨g + 1, 0, none⟩), .pointer (some ⟨g + 1 + 1, 0, none⟩), .int .i64 0, .pointer (some ⟨z, 0, none⟩), .bool ok, .tuple #[.agg #[.int .i64 p, .int .u64 q], .bool ok], .agg #[.int .i64 a0, .int .u64 a1], .agg (B.big la X), .agg #[.int .i64 b0, .int .u64 b1], .agg (B.big lb Y), .agg (B.big l N), .tuple #[.agg #[.int .i64 p, .int .u64 q], .bool ok], .agg #[.int .i64 p, .int .u64 q], .bool ok, undef, undef, undef, undef], defers := [] }) (by kernel_rfl) ?_
            refine wpAnyH_done (by kernel_rfl) ?_ _
            have f0 := blk_cell hn 0
            have f1 := blk_cell hn 1
            have e0 := blk_cell hS0.2.2.1 0
            have e1 := blk_cell hS0.2.2.1 1
            have z0 := blk_frozen hS0.2.2.1 0
            have z1 := blk_frozen hS0.2.2.1 1
            rename_i K1 hK1
            show K1 _ _
            refine hK1 _ _ ?_
            clear hK1
            cases ok with
            | false =>
              have r0 := Z0.out rfl
              have r3 : 3 = r3 := R3.out
              obtain ⟨rfl, rfl⟩ := r0
              subst r3
              go_wp2
              refine bodyPost_ret (results_ct rfl _ _ (g + 1 + 1) 32 #[.int .i64 0, .int .u64 0] (0, 0) _ rfl (by refine blk_put (cs := #[.int .i64 0, .int .u64 0]) ?_ 1 _ rfl; refine blk_put (cs := #[.int .i64 0, .int .u64 0]) ?_ 0 _ rfl; exact hS0.2.2.1) Try.underlying32 rfl (by kernel_rfl)) rfl ?_
              exact ⟨rfl, by rw [← HG.out]; exact (hS0.2.2.2.setCell (by show g ≤ g + 1 + 1; omega) _).setCell (by show g ≤ g + 1 + 1; omega) _⟩
            | true =>
              have r3 : 0 = r3 := R3.out
              subst r3
              go_wp2
              refine bodyPost_ret (results_ct rfl _ _ (g + 1 + 1) 32 #[.int .i64 p, .int .u64 q] (0, 0) _ rfl (by refine blk_put (cs := #[.int .i64 p, .int .u64 0]) ?_ 1 _ rfl; refine blk_put (cs := #[.int .i64 0, .int .u64 0]) ?_ 0 _ rfl; exact hS0.2.2.1) Try.underlying32 rfl (by kernel_rfl)) rfl ?_
              exact ⟨rfl, by rw [← HG.out]; exact (hS0.2.2.2.setCell (by show g ≤ g + 1 + 1; omega) _).setCell (by show g ≤ g + 1 + 1; omega) _⟩
          · clear hix
            refine B.step (v := .pointer (some ⟨W7.heap.size, 0, none⟩)) (w' := W7.alloc (.cells #[.int .i64 0, .int .u64 0] 32 (0, 0))) rfl rfl (by go_simp) ?_
            have hz := blk_new W7 (.cells #[.int .i64 0, .int .u64 0] 32 (0, 0))
            have zl : g + 1 + 1 < W7.heap.size := blk_lt hS0.2.2.1
            replace hS0 : (fun V9 : World => V9.heap[g]? = some (.cells #[.int .i64 a0, .int .u64 a1] 32 (0, 0)) ∧ V9.heap[g + 1]? = some (.cells #[.int .i64 b0, .int .u64 b1] 32 (0, 0)) ∧ V9.heap[g + 1 + 1]? = some (.cells #[.int .i64 0, .int .u64 0] 32 (0, 0)) ∧ Below g w V9) (W7.alloc (.cells #[.int .i64 0, .int .u64 0] 32 (0, 0))) := ⟨blk_alloc hS0.1 _, blk_alloc hS0.2.1 _, blk_alloc hS0.2.2.1 _, hS0.2.2.2.alloc (Nat.le_of_lt (blk_lt hS0.1)) _⟩
            generalize W7.heap.size = z at *
            generalize W7.alloc (.cells #[.int .i64 0, .int .u64 0] 32 (0, 0)) = W8 at *
            refine ⟨hS0, ?_⟩
            refine lombardref02_sum.norm (a' := { tmps := #[.agg #[.int .i64 a0, .int .u64 a1], .agg #[.int .i64 b0, .int .u64 b1], .pointer (some ⟨g, 0, none⟩), .pointer (some ⟨g + 1, 0, none⟩), .pointer (some ⟨g + 1 + 1, 0, none⟩), .int .i64 0, .pointer (some ⟨z, 0, none⟩), undef, undef, .agg #[.int .i64 a0, .int .u64 a1], .agg (B.big la X), .agg #[.int .i64 b0, .int .u64 b1], .agg (B.big lb Y), .agg (B.big l N), undef, undef, undef, undef, undef, undef, undef], defers := [] }) (by kernel_rfl) ?_
            refine wpAnyH_all (rs := [5]) (by kernel_rfl) (by simp) ?_
            intro ix hix
            obtain rfl : ix = 5 := by simpa using hix
            clear hix
            refine B.opCall1 rfl rfl (.agg (B.big l N)) 62 Try.f62 (.tmp 13) _ Try.func62 (by kernel_rfl) rfl rfl rfl ?_
            refine (BK.out _).mono ?_
            rintro e W9 ⟨rfl, hb⟩
            replace hz := blk_below hz hb
            replace hS0 : (fun V9 : World => V9.heap[g]? = some (.cells #[.int .i64 a0, .int .u64 a1] 32 (0, 0)) ∧ V9.heap[g + 1]? = some (.cells #[.int .i64 b0, .int .u64 b1] 32 (0, 0)) ∧ V9.heap[g + 1 + 1]? = some (.cells #[.int .i64 0, .int .u64 0] 32 (0, 0)) ∧ Below g w V9) W9 := ⟨blk_below hS0.1 hb, blk_below hS0.2.1 hb, blk_below hS0.2.2.1 hb, hS0.2.2.2.trans (hb.mono (Nat.le_of_lt (blk_lt hS0.1)))⟩
            clear hb
            refine ⟨_, rfl, hS0, ?_⟩
            refine lombardref02_sum.norm (a' := { tmps := #[.agg #[.int .i64 a0, .int .u64 a1], .agg #[.int .i64 b0, .int .u64 b1], .pointer (some ⟨g, 0, none⟩), .pointer (some ⟨g + 1, 0, none⟩), .pointer (some ⟨g + 1 + 1, 0, none⟩), .int .i64 0, .pointer (some ⟨z, 0, none⟩), undef, undef, .agg #[.int .i64 a0, .int .u64 a1], .agg (B.big la X), .agg #[.int .i64 b0, .int .u64 b1], .agg (B.big lb Y), .agg (B.big l N), .tuple #[.agg #[.int .i64 p, .int .u64 q], .bool ok], undef, undef, undef, undef, undef, undef], defers := [] }) (by kernel_rfl) ?_
            refine wpAnyH_take (i := 6) (v := .tuple #[.agg #[.int .i64 p, .int .u64 q], .bool ok]) rfl (by kernel_rfl) (by kernel_rfl) (by kernel_rfl) (fun _ _ _ h => h) (Or.inl ⟨by kernel_rfl, fun W9 hS => by go_simp⟩) hS0 ?_
            refine lombardref02_sum.norm (a' := { tmps := #[.agg #[.int .i64 a0, .int .u64 a1], .agg #[.int .i64 b0, .int .u64 b1], .pointer (some ⟨g, 0, none⟩), .pointer (some ⟨g + 1, 0, none⟩), .pointer (some ⟨g + 1 + 1, 0, none⟩), .int .i64 0, .pointer (some ⟨z, 0, none⟩), undef, .tuple #[.agg #[.int .i64 p, .int .u64 q], .bool ok], .agg #[.int .i64 a0, .int .u64 a1], .agg (B.big la X), .agg #[.int .i64 b0, .int .u64 b1], .agg (B.big lb Y), .agg (B.big l N), .tuple #[.agg #[.int .i64 p, .int .u64 q], .bool ok], undef, undef, undef, undef, undef, undef], defers := [] }) (by kernel_rfl) ?_
            refine wpAnyH_take (i := 7) (v := .agg #[.int .i64 p, .int .u64 q]) rfl (by kernel_rfl) (by kernel_rfl) (by kernel_rfl) (fun _ _ _ h => h) (Or.inl ⟨by kernel_rfl, fun W9 hS => by go_simp⟩) hS0 ?_
            refine wpAnyH_take (i := 8) (v := .bool ok) rfl (by kernel_rfl) (by kernel_rfl) (by kernel_rfl) (fun _ _ _ h => h) (Or.inl ⟨by kernel_rfl, fun W9 hS => by go_simp⟩) hS0 ?_
            refine lombardref02_sum.norm (a' := { tmps := #[.agg #[.int .i64 a0, .int .u64 a1], .agg #[.int .i64 b0, .int .u64 b1], .pointer (some ⟨g, 0, none⟩), .pointer (some ⟨g + 1, 0, none⟩), .pointer (some ⟨g + 1 + 1, 0, none⟩), .int .i64 0, .pointer (some ⟨z, 0, none⟩), undef, .tuple #[.agg #[.int .i64 p, .int .u64 q], .bool ok], .agg #[.int .i64 a0, .int .u64 a1], .agg (B.big la X), .agg #[.int .i64 b0, .int .u64 b1], .agg (B.big lb Y), .agg (B.big l N), .tuple #[.agg #[.int .i64 p, .int .u64 q], .bool ok], .agg #[.int .i64 p, .int .u64 q], .bool ok, undef, undef, undef, undef], defers := [] }) (by kernel_rfl) ?_
            refine wpAnyH_all (rs := [10]) (by kernel_rfl) (by simp) ?_
            intro ix hix
            obtain rfl : ix = 10 := by simpa using hix
            clear hix
            refine B.opStoreI rfl rfl (.tmp 6) (.tmp 15) rfl z p q _ (by rfl) rfl rfl hz ?_
            have hn := setRow_heap W9 z _ #[.int .i64 p, .int .u64 q] _ _ hz
            replace hS0 : (fun V9 : World => V9.heap[g]? = some (.cells #[.int .i64 a0, .int .u64 a1] 32 (0, 0)) ∧ V9.heap[g + 1]? = some (.cells #[.int .i64 b0, .int .u64 b1] 32 (0, 0)) ∧ V9.heap[g + 1 + 1]? = some (.cells #[.int .i64 0, .int .u64 0] 32 (0, 0)) ∧ Below g w V9) (W9.setRow z #[.int .i64 p, .int .u64 q]) := ⟨(setRow_other _ _ _ _ (by omega)).trans hS0.1, (setRow_other _ _ _ _ (by omega)).trans hS0.2.1, (setRow_other _ _ _ _ (by omega)).trans hS0.2.2.1, B.below_row hS0.2.2.2 (by omega) _⟩
            clear hz
            generalize W9.setRow z #[.int .i64 p, .int .u64 q] = W10 at *
            refine ⟨hS0, ?_⟩
            refine lombardref02_sum.norm (a' := { tmps := #[.agg #[.int .i64 a0, .int .u64 a1], .agg #[.int .i64 b0, .int .u64 b1], .pointer (some ⟨g, 0, none⟩), .pointer (some ⟨g + 1, 0, none⟩), .pointer (some ⟨g + 1 + 1, 0, none⟩), .int .i64 0, .pointer (some ⟨z, 0, none⟩), undef, .tuple #[.agg #[.int .i64 p, .int .u64 q], .bool ok], .agg #[.int .i64 a0, .int .u64 a1], .agg (B.big la X), .agg #[.int .i64 b0, .int .u64 b1], .agg (B.big lb Y), .agg (B.big l N), .tuple #[.agg #[.int .i64 p, .int .u64 q], .bool ok], .agg #[.int .i64 p, .int .u64 q], .bool ok, undef, undef, undef, undef], defers := [] }) (by kernel_rfl) ?_
            refine wpAnyH_take (i := 11) (v := .bool ok) rfl (by kernel_rfl) (by kernel_rfl) (by kernel_rfl) (fun _ _ _ h => h) (Or.inl ⟨by kernel_rfl, fun W9 hS => by go_simp⟩) hS0 ?_
            refine lombardref02_sum.norm (a' := { tmps := #[.agg #[.int .i64 a0, .int .u64 a1], .agg #[.int .i64 b0, .int .u64 b1], .pointer (some ⟨g, 0, none⟩), .pointer (some ⟨g + 1, 0, none⟩), .pointer (some ⟨g + 1 + 1, 0, none⟩), .int .i64 0, .pointer (some ⟨z, 0, none⟩), .bool ok, .tuple #[.agg #[.int .i64 p, .int .u64 q], .bool ok], .agg #[.int .i64 a0, .int .u64 a1], .agg (B.big la X), .agg #[.int .i64 b0, .int .u64 b1], .agg (B.big lb Y), .agg (B.big l N), .tuple #[.agg #[.int .i64 p, .int .u64 q], .bool ok], .agg #[.int .i64 p, .int .u64 q], .bool ok, undef, undef, undef, undef], defers := [] }) (by kernel_rfl) ?_
            refine wpAnyH_done (by kernel_rfl) ?_ _
            have f0 := blk_cell hn 0
            have f1 := blk_cell hn 1
            have e0 := blk_cell hS0.2.2.1 0
            have e1 := blk_cell hS0.2.2.1 1
            have z0 := blk_frozen hS0.2.2.1 0
            have z1 := blk_frozen hS0.2.2.1 1
            rename_i K1 hK1
            show K1 _ _
            refine hK1 _ _ ?_
            clear hK1
            cases ok with
            | false =>
              have r0 := Z0.out rfl
              have r3 : 3 = r3 := R3.out
              obtain ⟨rfl, rfl⟩ := r0
              subst r3
              go_wp2
              refine bodyPost_ret (results_ct rfl _ _ (g + 1 + 1) 32 #[.int .i64 0, .int .u64 0] (0, 0) _ rfl (by refine blk_put (cs := #[.int .i64 0, .int .u64 0]) ?_ 1 _ rfl; refine blk_put (cs := #[.int .i64 0, .int .u64 0]) ?_ 0 _ rfl; exact hS0.2.2.1) Try.underlying32 rfl (by kernel_rfl)) rfl ?_
              exact ⟨rfl, by rw [← HG.out]; exact (hS0.2.2.2.setCell (by show g ≤ g + 1 + 1; omega) _).setCell (by show g ≤ g + 1 + 1; omega) _⟩
            | true =>
              have r3 : 0 = r3 := R3.out
              subst r3
              go_wp2
              refine bodyPost_ret (results_ct rfl _ _ (g + 1 + 1) 32 #[.int .i64 p, .int .u64 q] (0, 0) _ rfl (by refine blk_put (cs := #[.int .i64 p, .int .u64 0]) ?_ 1 _ rfl; refine blk_put (cs := #[.int .i64 0, .int .u64 0]) ?_ 0 _ rfl; exact hS0.2.2.1) Try.underlying32 rfl (by kernel_rfl)) rfl ?_
              exact ⟨rfl, by rw [← HG.out]; exact (hS0.2.2.2.setCell (by show g ≤ g + 1 + 1; omega) _).setCell (by show g ≤ g + 1 + 1; omega) _⟩
        · clear hix
          refine B.step (v := .pointer (some ⟨W6.heap.size, 0, none⟩)) (w' := W6.alloc (.cells #[.int .i64 0, .int .u64 0] 32 (0, 0))) rfl rfl (by go_simp) ?_
          have hz := blk_new W6 (.cells #[.int .i64 0, .int .u64 0] 32 (0, 0))
          have zl : g + 1 + 1 < W6.heap.size := blk_lt hS0.2.2.1
          replace hS0 : (fun V9 : World => V9.heap[g]? = some (.cells #[.int .i64 a0, .int .u64 a1] 32 (0, 0)) ∧ V9.heap[g + 1]? = some (.cells #[.int .i64 b0, .int .u64 b1] 32 (0, 0)) ∧ V9.heap[g + 1 + 1]? = some (.cells #[.int .i64 0, .int .u64 0] 32 (0, 0)) ∧ Below g w V9) (W6.alloc (.cells #[.int .i64 0, .int .u64 0] 32 (0, 0))) := ⟨blk_alloc hS0.1 _, blk_alloc hS0.2.1 _, blk_alloc hS0.2.2.1 _, hS0.2.2.2.alloc (Nat.le_of_lt (blk_lt hS0.1)) _⟩
          generalize W6.heap.size = z at *
          generalize W6.alloc (.cells #[.int .i64 0, .int .u64 0] 32 (0, 0)) = W7 at *
          refine ⟨hS0, ?_⟩
          refine lombardref02_sum.norm (a' := { tmps := #[.agg #[.int .i64 a0, .int .u64 a1], .agg #[.int .i64 b0, .int .u64 b1], .pointer (some ⟨g, 0, none⟩), .pointer (some ⟨g + 1, 0, none⟩), .pointer (some ⟨g + 1 + 1, 0, none⟩), .int .i64 0, .pointer (some ⟨z, 0, none⟩), undef, undef, .agg #[.int .i64 a0, .int .u64 a1], .agg (B.big la X), .agg #[.int .i64 b0, .int .u64 b1], .agg (B.big lb Y), undef, undef, undef, undef, undef, undef, undef, undef], defers := [] }) (by kernel_rfl) ?_
          refine wpAnyH_all (rs := [4]) (by kernel_rfl) (by simp) ?_
          intro ix hix
          obtain rfl : ix = 4 := by simpa using hix
          clear hix
          refine B.opCall rfl rfl (.agg (B.big la X)) (.agg (B.big lb Y)) 63 Try.f63 (.tmp 10) (.tmp 12) _ Try.func63 (by kernel_rfl) rfl rfl rfl rfl ?_
          refine (SM.out _).mono ?_
          rintro e W8 ⟨rfl, hb⟩
          replace hz := blk_below hz hb
          replace hS0 : (fun V9 : World => V9.heap[g]? = some (.cells #[.int .i64 a0, .int .u64 a1] 32 (0, 0)) ∧ V9.heap[g + 1]? = some (.cells #[.int .i64 b0, .int .u64 b1] 32 (0, 0)) ∧ V9.heap[g + 1 + 1]? = some (.cells #[.int .i64 0, .int .u64 0] 32 (0, 0)) ∧ Below g w V9) W8 := ⟨blk_below hS0.1 hb, blk_below hS0.2.1 hb, blk_below hS0.2.2.1 hb, hS0.2.2.2.trans (hb.mono (Nat.le_of_lt (blk_lt hS0.1)))⟩
          clear hb
          refine ⟨_, rfl, hS0, ?_⟩
          refine lombardref02_sum.norm (a' := { tmps := #[.agg #[.int .i64 a0, .int .u64 a1], .agg #[.int .i64 b0, .int .u64 b1], .pointer (some ⟨g, 0, none⟩), .pointer (some ⟨g + 1, 0, none⟩), .pointer (some ⟨g + 1 + 1, 0, none⟩), .int .i64 0, .pointer (some ⟨z, 0, none⟩), undef, undef, .agg #[.int .i64 a0, .int .u64 a1], .agg (B.big la X), .agg #[.int .i64 b0, .int .u64 b1], .agg (B.big lb Y), .agg (B.big l N), undef, undef, undef, undef, undef, undef, undef], defers := [] }) (by kernel_rfl) ?_
          refine wpAnyH_all (rs := [5]) (by kernel_rfl) (by simp) ?_
          intro ix hix
          obtain rfl : ix = 5 := by simpa using hix
          clear hix
          refine B.opCall1 rfl rfl (.agg (B.big l N)) 62 Try.f62 (.tmp 13) _ Try.func62 (by kernel_rfl) rfl rfl rfl ?_
          refine (BK.out _).mono ?_
          rintro e W9 ⟨rfl, hb⟩
          replace hz := blk_below hz hb
          replace hS0 : (fun V9 : World => V9.heap[g]? = some (.cells #[.int .i64 a0, .int .u64 a1] 32 (0, 0)) ∧ V9.heap[g + 1]? = some (.cells #[.int .i64 b0, .int .u64 b1] 32 (0, 0)) ∧ V9.heap[g + 1 + 1]? = some (.cells #[.int .i64 0, .int .u64 0] 32 (0, 0)) ∧ Below g w V9) W9 := ⟨blk_below hS0.1 hb, blk_below hS0.2.1 hb, blk_below hS0.2.2.1 hb, hS0.2.2.2.trans (hb.mono (Nat.le_of_lt (blk_lt hS0.1)))⟩
          clear hb
          refine ⟨_, rfl, hS0, ?_⟩
          refine lombardref02_sum.norm (a' := { tmps := #[.agg #[.int .i64 a0, .int .u64 a1], .agg #[.int .i64 b0, .int .u64 b1], .pointer (some ⟨g, 0, none⟩), .pointer (some ⟨g + 1, 0, none⟩), .pointer (some ⟨g + 1 + 1, 0, none⟩), .int .i64 0, .pointer (some ⟨z, 0, none⟩), undef, undef, .agg #[.int .i64 a0, .int .u64 a1], .agg (B.big la X), .agg #[.int .i64 b0, .int .u64 b1], .agg (B.big lb Y), .agg (B.big l N), .tuple #[.agg #[.int .i64 p, .int .u64 q], .bool ok], undef, undef, undef, undef, undef, undef], defers := [] }) (by kernel_rfl) ?_
          refine wpAnyH_take (i := 6) (v := .tuple #[.agg #[.int .i64 p, .int .u64 q], .bool ok]) rfl (by kernel_rfl) (by kernel_rfl) (by kernel_rfl) (fun _ _ _ h => h) (Or.inl ⟨by kernel_rfl, fun W9 hS => by go_simp⟩) hS0 ?_
          refine lombardref02_sum.norm (a' := { tmps := #[.agg #[.int .i64 a0, .int .u64 a1], .agg #[.int .i64 b0, .int .u64 b1], .pointer (some ⟨g, 0, none⟩), .pointer (some ⟨g + 1, 0, none⟩), .pointer (some ⟨g + 1 + 1, 0, none⟩), .int .i64 0, .pointer (some ⟨z, 0, none⟩), undef, .tuple #[.agg #[.int .i64 p, .int .u64 q], .bool ok], .agg #[.int .i64 a0, .int .u64 a1], .agg (B.big la X), .agg #[.int .i64 b0, .int .u64 b1], .agg (B.big lb Y), .agg (B.big l N), .tuple #[.agg #[.int .i64 p, .int .u64 q], .bool ok], undef, undef, undef, undef, undef, undef], defers := [] }) (by kernel_rfl) ?_
          refine wpAnyH_take (i := 7) (v := .agg #[.int .i64 p, .int .u64 q]) rfl (by kernel_rfl) (by kernel_rfl) (by kernel_rfl) (fun _ _ _ h => h) (Or.inl ⟨by kernel_rfl, fun W9 hS => by go_simp⟩) hS0 ?_
          refine wpAnyH_take (i := 8) (v := .bool ok) rfl (by kernel_rfl) (by kernel_rfl) (by kernel_rfl) (fun _ _ _ h => h) (Or.inl ⟨by kernel_rfl, fun W9 hS => by go_simp⟩) hS0 ?_
          refine lombardref02_sum.norm (a' := { tmps := #[.agg #[.int .i64 a0, .int .u64 a1], .agg #[.int .i64 b0, .int .u64 b1], .pointer (some ⟨g, 0, none⟩), .pointer (some ⟨g + 1, 0, none⟩), .pointer (some ⟨g + 1 + 1, 0, none⟩), .int .i64 0, .pointer (some ⟨z, 0, none⟩), undef, .tuple #[.agg #[.int .i64 p, .int .u64 q], .bool ok], .agg #[.int .i64 a0, .int .u64 a1], .agg (B.big la X), .agg #[.int .i64 b0, .int .u64 b1], .agg (B.big lb Y), .agg (B.big l N), .tuple #[.agg #[.int .i64 p, .int .u64 q], .bool ok], .agg #[.int .i64 p, .int .u64 q], .bool ok, undef, undef, undef, undef], defers := [] }) (by kernel_rfl) ?_
          refine wpAnyH_all (rs := [10]) (by kernel_rfl) (by simp) ?_
          intro ix hix
          obtain rfl : ix = 10 := by simpa using hix
          clear hix
          refine B.opStoreI rfl rfl (.tmp 6) (.tmp 15) rfl z p q _ (by rfl) rfl rfl hz ?_
          have hn := setRow_heap W9 z _ #[.int .i64 p, .int .u64 q] _ _ hz
          replace hS0 : (fun V9 : World => V9.heap[g]? = some (.cells #[.int .i64 a0, .int .u64 a1] 32 (0, 0)) ∧ V9.heap[g + 1]? = some (.cells #[.int .i64 b0, .int .u64 b1] 32 (0, 0)) ∧ V9.heap[g + 1 + 1]? = some (.cells #[.int .i64 0, .int .u64 0] 32 (0, 0)) ∧ Below g w V9) (W9.setRow z #[.int .i64 p, .int .u64 q]) := ⟨(setRow_other _ _ _ _ (by omega)).trans hS0.1, (setRow_other _ _ _ _ (by omega)).trans hS0.2.1, (setRow_other _ _ _ _ (by omega)).trans hS0.2.2.1, B.below_row hS0.2.2.2 (by omega) _⟩
          clear hz
          generalize W9.setRow z #[.int .i64 p, .int .u64 q] = W10 at *
          refine ⟨hS0, ?_⟩
          refine lombardref02_sum.norm (a' := { tmps := #[.agg #[.int .i64 a0, .int .u64 a1], .agg #[.int .i64 b0, .int .u64 b1], .pointer (some ⟨g, 0, none⟩), .pointer (some ⟨g + 1, 0, none⟩), .pointer (some ⟨g + 1 + 1, 0, none⟩), .int .i64 0, .pointer (some ⟨z, 0, none⟩), undef, .tuple #[.agg #[.int .i64 p, .int .u64 q], .bool ok], .agg #[.int .i64 a0, .int .u64 a1], .agg (B.big la X), .agg #[.int .i64 b0, .int .u64 b1], .agg (B.big lb Y), .agg (B.big l N), .tuple #[.agg #[.int .i64 p, .int .u64 q], .bool ok], .agg #[.int .i64 p, .int .u64 q], .bool ok, undef, undef, undef, undef], defers := [] }) (by kernel_rfl) ?_
          refine wpAnyH_take (i := 11) (v := .bool ok) rfl (by kernel_rfl) (by kernel_rfl) (by kernel_rfl) (fun _ _ _ h => h) (Or.inl ⟨by kernel_rfl, fun W9 hS => by go_simp⟩) hS0 ?_
          refine lombardref02_sum.norm (a' := { tmps := #[.agg #[.int .i64 a0, .int .u64 a1], .agg #[.int .i64 b0, .int .u64 b1], .pointer (some ⟨g, 0, none⟩), .pointer (some ⟨g + 1, 0, none⟩), .pointer (some ⟨g + 1 + 1, 0, none⟩), .int .i64 0, .pointer (some ⟨z, 0, none⟩), .bool ok, .tuple #[.agg #[.int .i64 p, .int .u64 q], .bool ok], .agg #[.int .i64 a0, .int .u64 a1], .agg (B.big la X), .agg #[.int .i64 b0, .int .u64 b1], .agg (B.big lb Y), .agg (B.big l N), .tuple #[.agg #[.int .i64 p, .int .u64 q], .bool ok], .agg #[.int .i64 p, .int .u64 q], .bool ok, undef, undef, undef, undef], defers := [] }) (by kernel_rfl) ?_
          refine wpAnyH_done (by kernel_rfl) ?_ _
          have f0 := blk_cell hn 0
          have f1 := blk_cell hn 1
          have e0 := blk_cell hS0.2.2.1 0
          have e1 := blk_cell hS0.2.2.1 1
          have z0 := blk_frozen hS0.2.2.1 0
          have z1 := blk_frozen hS0.2.2.1 1
          rename_i K1 hK1
          show K1 _ _
          refine hK1 _ _ ?_
          clear hK1
          cases ok with
          | false =>
            have r0 := Z0.out rfl
            have r3 : 3 = r3 := R3.out
            obtain ⟨rfl, rfl⟩ := r0
            subst r3
            go_wp2
            refine bodyPost_ret (results_ct rfl _ _ (g + 1 + 1) 32 #[.int .i64 0, .int .u64 0] (0, 0) _ rfl (by refine blk_put (cs := #[.int .i64 0, .int .u64 0]) ?_ 1 _ rfl; refine blk_put (cs := #[.int .i64 0, .int .u64 0]) ?_ 0 _ rfl; exact hS0.2.2.1) Try.underlying32 rfl (by kernel_rfl)) rfl ?_
            exact ⟨rfl, by rw [← HG.out]; exact (hS0.2.2.2.setCell (by show g ≤ g + 1 + 1; omega) _).setCell (by show g ≤ g + 1 + 1; omega) _⟩
          | true =>
            have r3 : 0 = r3 := R3.out
            subst r3
            go_wp2
            refine bodyPost_ret (results_ct rfl _ _ (g + 1 + 1) 32 #[.int .i64 p, .int .u64 q] (0, 0) _ rfl (by refine blk_put (cs := #[.int .i64 p, .int .u64 0]) ?_ 1 _ rfl; refine blk_put (cs := #[.int .i64 0, .int .u64 0]) ?_ 0 _ rfl; exact hS0.2.2.1) Try.underlying32 rfl (by kernel_rfl)) rfl ?_
            exact ⟨rfl, by rw [← HG.out]; exact (hS0.2.2.2.setCell (by show g ≤ g + 1 + 1; omega) _).setCell (by show g ≤ g + 1 + 1; omega) _⟩
      · clear hix
        refine B.step (v := .pointer (some ⟨W5.heap.size, 0, none⟩)) (w' := W5.alloc (.cells #[.int .i64 0, .int .u64 0] 32 (0, 0))) rfl rfl (by go_simp) ?_
        have hz := blk_new W5 (.cells #[.int .i64 0, .int .u64 0] 32 (0, 0))
        have zl : g + 1 + 1 < W5.heap.size := blk_lt hS0.2.2.1
        replace hS0 : (fun V9 : World => V9.heap[g]? = some (.cells #[.int .i64 a0, .int .u64 a1] 32 (0, 0)) ∧ V9.heap[g + 1]? = some (.cells #[.int .i64 b0, .int .u64 b1] 32 (0, 0)) ∧ V9.heap[g + 1 + 1]? = some (.cells #[.int .i64 0, .int .u64 0] 32 (0, 0)) ∧ Below g w V9) (W5.alloc (.cells #[.int .i64 0, .int .u64 0] 32 (0, 0))) := ⟨blk_alloc hS0.1 _, blk_alloc hS0.2.1 _, blk_alloc hS0.2.2.1 _, hS0.2.2.2.alloc (Nat.le_of_lt (blk_lt hS0.1)) _⟩
        generalize W5.heap.size = z at *
        generalize W5.alloc (.cells #[.int .i64 0, .int .u64 0] 32 (0, 0)) = W6 at *
        refine ⟨hS0, ?_⟩
        refine lombardref02_sum.norm (a' := { tmps := #[.agg #[.int .i64 a0, .int .u64 a1], .agg #[.int .i64 b0, .int .u64 b1], .pointer (some ⟨g, 0, none⟩), .pointer (some ⟨g + 1, 0, none⟩), .pointer (some ⟨g + 1 + 1, 0, none⟩), .int .i64 0, .pointer (some ⟨z, 0, none⟩), undef, undef, .agg #[.int .i64 a0, .int .u64 a1], .agg (B.big la X), .agg #[.int .i64 b0, .int .u64 b1], undef, undef, undef, undef, undef, undef, undef, undef, undef], defers := [] }) (by kernel_rfl) ?_
        refine wpAnyH_all (rs := [3]) (by kernel_rfl) (by simp) ?_
        intro ix hix
        obtain rfl : ix = 3 := by simpa using hix
        clear hix
        refine B.opCall1 rfl rfl (.agg #[.int .i64 b0, .int .u64 b1]) 52 Try.f52 (.tmp 11) _ Try.func52 (by kernel_rfl) rfl rfl rfl ?_
        refine (BB.out _).mono ?_
        rintro e W7 ⟨rfl, hb⟩
        replace hz := blk_below hz hb
        replace hS0 : (fun V9 : World => V9.heap[g]? = some (.cells #[.int .i64 a0, .int .u64 a1] 32 (0, 0)) ∧ V9.heap[g + 1]? = some (.cells #[.int .i64 b0, .int .u64 b1] 32 (0, 0)) ∧ V9.heap[g + 1 + 1]? = some (.cells #[.int .i64 0, .int .u64 0] 32 (0, 0)) ∧ Below g w V9) W7 := ⟨blk_below hS0.1 hb, blk_below hS0.2.1 hb, blk_below hS0.2.2.1 hb, hS0.2.2.2.trans (hb.mono (Nat.le_of_lt (blk_lt hS0.1)))⟩
        clear hb
        refine ⟨_, rfl, hS0, ?_⟩
        refine lombardref02_sum.norm (a' := { tmps := #[.agg #[.int .i64 a0, .int .u64 a1], .agg #[.int .i64 b0, .int .u64 b1], .pointer (some ⟨g, 0, none⟩), .pointer (some ⟨g + 1, 0, none⟩), .pointer (some ⟨g + 1 + 1, 0, none⟩), .int .i64 0, .pointer (some ⟨z, 0, none⟩), undef, undef, .agg #[.int .i64 a0, .int .u64 a1], .agg (B.big la X), .agg #[.int .i64 b0, .int .u64 b1], .agg (B.big lb Y), undef, undef, undef, undef, undef, undef, undef, undef], defers := [] }) (by kernel_rfl) ?_
        refine wpAnyH_all (rs := [4]) (by kernel_rfl) (by simp) ?_
        intro ix hix
        obtain rfl : ix = 4 := by simpa using hix
        clear hix
        refine B.opCall rfl rfl (.agg (B.big la X)) (.agg (B.big lb Y)) 63 Try.f63 (.tmp 10) (.tmp 12) _ Try.func63 (by kernel_rfl) rfl rfl rfl rfl ?_
        refine (SM.out _).mono ?_
        rintro e W8 ⟨rfl, hb⟩
        replace hz := blk_below hz hb
        replace hS0 : (fun V9 : World => V9.heap[g]? = some (.cells #[.int .i64 a0, .int .u64 a1] 32 (0, 0)) ∧ V9.heap[g + 1]? = some (.cells #[.int .i64 b0, .int .u64 b1] 32 (0, 0)) ∧ V9.heap[g + 1 + 1]? = some (.cells #[.int .i64 0, .int .u64 0] 32 (0, 0)) ∧ Below g w V9) W8 := ⟨blk_below hS0.1 hb, blk_below hS0.2.1 hb, blk_below hS0.2.2.1 hb, hS0.2.2.2.trans (hb.mono (Nat.le_of_lt (blk_lt hS0.1)))⟩
        clear hb
        refine ⟨_, rfl, hS0, ?_⟩
        refine lombardref02_sum.norm (a' := { tmps := #[.agg #[.int .i64 a0, .int .u64 a1], .agg #[.int .i64 b0, .int .u64 b1], .pointer (some ⟨g, 0, none⟩), .pointer (some ⟨g + 1, 0, none⟩), .pointer (some ⟨g + 1 + 1, 0, none⟩), .int .i64 0, .pointer (some ⟨z, 0, none⟩), undef, undef, .agg #[.int .i64 a0, .int .u64 a1], .agg (B.big la X), .agg #[.int .i64 b0, .int .u64 b1], .agg (B.big lb Y), .agg (B.big l N), undef, undef, undef, undef, undef, undef, undef], defers := [] }) (by kernel_rfl) ?_
        refine wpAnyH_all (rs := [5]) (by kernel_rfl) (by simp) ?_
        intro ix hix
        obtain rfl : ix = 5 := by simpa using hix
        clear hix
        refine B.opCall1 rfl rfl (.agg (B.big l N)) 62 Try.f62 (.tmp 13) _ Try.func62 (by kernel_rfl) rfl rfl rfl ?_
        refine (BK.out _).mono ?_
        rintro e W9 ⟨rfl, hb⟩
        replace hz := blk_below hz hb
        replace hS0 : (fun V9 : World => V9.heap[g]? = some (.cells #[.int .i64 a0, .int .u64 a1] 32 (0, 0)) ∧ V9.heap[g + 1]? = some (.cells #[.int .i64 b0, .int .u64 b1] 32 (0, 0)) ∧ V9.heap[g + 1 + 1]? = some (.cells #[.int .i64 0, .int .u64 0] 32 (0, 0)) ∧ Below g w V9) W9 := ⟨blk_below hS0.1 hb, blk_below hS0.2.1 hb, blk_below hS0.2.2.1 hb, hS0.2.2.2.trans (hb.mono (Nat.le_of_lt (blk_lt hS0.1)))⟩
        clear hb
        refine ⟨_, rfl, hS0, ?_⟩
        refine lombardref02_sum.norm (a' := { tmps := #[.agg #[.int .i64 a0, .int .u64 a1], .agg #[.int .i64 b0, .int .u64 b1], .pointer (some ⟨g, 0, none⟩), .pointer (some ⟨g + 1, 0, none⟩), .pointer (some ⟨g + 1 + 1, 0, none⟩), .int .i64 0, .pointer (some ⟨z, 0, none⟩), undef, undef, .agg #[.int .i64 a0, .int .u64 a1], .agg (B.big la X), .agg #[.int .i64 b0, .int .u64 b1], .agg (B.big lb Y), .agg (B.big l N), .tuple #[.agg #[.int .i64 p, .int .u64 q], .bool ok], undef, undef, undef, undef, undef, undef], defers := [] }) (by kernel_rfl) ?_
        refine wpAnyH_take (i := 6) (v := .tuple #[.agg #[.int .i64 p, .int .u64 q], .bool ok]) rfl (by kernel_rfl) (by kernel_rfl) (by kernel_rfl) (fun _ _ _ h => h) (Or.inl ⟨by kernel_rfl, fun W9 hS => by go_simp⟩) hS0 ?_
        refine lombardref02_sum.norm (a' := { tmps := #[.agg #[.int .i64 a0, .int .u64 a1], .agg #[.int .i64 b0, .int .u64 b1], .pointer (some ⟨g, 0, none⟩), .pointer (some ⟨g + 1, 0, none⟩), .pointer (some ⟨g + 1 + 1, 0, none⟩), .int .i64 0, .pointer (some ⟨z, 0, none⟩), undef, .tuple #[.agg #[.int .i64 p, .int .u64 q], .bool ok], .agg #[.int .i64 a0, .int .u64 a1], .agg (B.big la X), .agg #[.int .i64 b0, .int .u64 b1], .agg (B.big lb Y), .agg (B.big l N), .tuple #[.agg #[.int .i64 p, .int .u64 q], .bool ok], undef, undef, undef, undef, undef, undef], defers := [] }) (by kernel_rfl) ?_
        refine wpAnyH_take (i := 7) (v := .agg #[.int .i64 p, .int .u64 q]) rfl (by kernel_rfl) (by kernel_rfl) (by kernel_rfl) (fun _ _ _ h => h) (Or.inl ⟨by kernel_rfl, fun W9 hS => by go_simp⟩) hS0 ?_
        refine wpAnyH_take (i := 8) (v := .bool ok) rfl (by kernel_rfl) (by kernel_rfl) (by kernel_rfl) (fun _ _ _ h => h) (Or.inl ⟨by kernel_rfl, fun W9 hS => by go_simp⟩) hS0 ?_
        refine lombardref02_sum.norm (a' := { tmps := #[.agg #[.int .i64 a0, .int .u64 a1], .agg #[.int .i64 b0, .int .u64 b1], .pointer (some ⟨g, 0, none⟩), .pointer (some ⟨g + 1, 0, none⟩), .pointer (some ⟨g + 1 + 1, 0, none⟩), .int .i64 0, .pointer (some ⟨z, 0, none⟩), undef, .tuple #[.agg #[.int .i64 p, .int .u64 q], .bool ok], .agg #[.int .i64 a0, .int .u64 a1], .agg (B.big la X), .agg #[.int .i64 b0, .int .u64 b1], .agg (B.big lb Y), .agg (B.big l N), .tuple #[.agg #[.int .i64 p, .int .u64 q], .bool ok], .agg #[.int .i64 p, .int .u64 q], .bool ok, undef, undef, undef, undef], defers := [] }) (by kernel_rfl) ?_
        refine wpAnyH_all (rs := [10]) (by kernel_rfl) (by simp) ?_
        intro ix hix
        obtain rfl : ix = 10 := by simpa using hix
        clear hix
        refine B.opStoreI rfl rfl (.tmp 6) (.tmp 15) rfl z p q _ (by rfl) rfl rfl hz ?_
        have hn := setRow_heap W9 z _ #[.int .i64 p, .int .u64 q] _ _ hz
        replace hS0 : (fun V9 : World => V9.heap[g]? = some (.cells #[.int .i64 a0, .int .u64 a1] 32 (0, 0)) ∧ V9.heap[g + 1]? = some (.cells #[.int .i64 b0, .int .u64 b1] 32 (0, 0)) ∧ V9.heap[g + 1 + 1]? = some (.cells #[.int .i64 0, .int .u64 0] 32 (0, 0)) ∧ Below g w V9) (W9.setRow z #[.int .i64 p, .int .u64 q]) := ⟨(setRow_other _ _ _ _ (by omega)).trans hS0.1, (setRow_other _ _ _ _ (by omega)).trans hS0.2.1, (setRow_other _ _ _ _ (by omega)).trans hS0.2.2.1, B.below_row hS0.2.2.2 (by omega) _⟩
        clear hz
        generalize W9.setRow z #[.int .i64 p, .int .u64 q] = W10 at *
        refine ⟨hS0, ?_⟩
        refine lombardref02_sum.norm (a' := { tmps := #[.agg #[.int .i64 a0, .int .u64 a1], .agg #[.int .i64 b0, .int .u64 b1], .pointer (some ⟨g, 0, none⟩), .pointer (some ⟨g + 1, 0, none⟩), .pointer (some ⟨g + 1 + 1, 0, none⟩), .int .i64 0, .pointer (some ⟨z, 0, none⟩), undef, .tuple #[.agg #[.int .i64 p, .int .u64 q], .bool ok], .agg #[.int .i64 a0, .int .u64 a1], .agg (B.big la X), .agg #[.int .i64 b0, .int .u64 b1], .agg (B.big lb Y), .agg (B.big l N), .tuple #[.agg #[.int .i64 p, .int .u64 q], .bool ok], .agg #[.int .i64 p, .int .u64 q], .bool ok, undef, undef, undef, undef], defers := [] }) (by kernel_rfl) ?_
        refine wpAnyH_take (i := 11) (v := .bool ok) rfl (by kernel_rfl) (by kernel_rfl) (by kernel_rfl) (fun _ _ _ h => h) (Or.inl ⟨by kernel_rfl, fun W9 hS => by go_simp⟩) hS0 ?_
        refine lombardref02_sum.norm (a' := { tmps := #[.agg #[.int .i64 a0, .int .u64 a1], .agg #[.int .i64 b0, .int .u64 b1], .pointer (some ⟨g, 0, none⟩), .pointer (some ⟨g + 1, 0, none⟩), .pointer (some ⟨g + 1 + 1, 0, none⟩), .int .i64 0, .pointer (some ⟨z, 0, none⟩), .bool ok, .tuple #[.agg #[.int .i64 p, .int .u64 q], .bool ok], .agg #[.int .i64 a0, .int .u64 a1], .agg (B.big la X), .agg #[.int .i64 b0, .int .u64 b1], .agg (B.big lb Y), .agg (B.big l N), .tuple #[.agg #[.int .i64 p, .int .u64 q], .bool ok], .agg #[.int .i64 p, .int .u64 q], .bool ok, undef, undef, undef, undef], defers := [] }) (by kernel_rfl) ?_
        refine wpAnyH_done (by kernel_rfl) ?_ _
        have f0 := blk_cell hn 0
        have f1 := blk_cell hn 1
        have e0 := blk_cell hS0.2.2.1 0
        have e1 := blk_cell hS0.2.2.1 1
        have z0 := blk_frozen hS0.2.2.1 0
        have z1 := blk_frozen hS0.2.2.1 1
        rename_i K1 hK1
        show K1 _ _
        refine hK1 _ _ ?_
        clear hK1
        cases ok with
        | false =>
          have r0 := Z0.out rfl
          have r3 : 3 = r3 := R3.out
          obtain ⟨rfl, rfl⟩ := r0
          subst r3
          go_wp2
          refine bodyPost_ret (results_ct rfl _ _ (g + 1 + 1) 32 #[.int .i64 0, .int .u64 0] (0, 0) _ rfl (by refine blk_put (cs := #[.int .i64 0, .int .u64 0]) ?_ 1 _ rfl; refine blk_put (cs := #[.int .i64 0, .int .u64 0]) ?_ 0 _ rfl; exact hS0.2.2.1) Try.underlying32 rfl (by kernel_rfl)) rfl ?_
          exact ⟨rfl, by rw [← HG.out]; exact (hS0.2.2.2.setCell (by show g ≤ g + 1 + 1; omega) _).setCell (by show g ≤ g + 1 + 1; omega) _⟩
        | true =>
          have r3 : 0 = r3 := R3.out
          subst r3
          go_wp2
          refine bodyPost_ret (results_ct rfl _ _ (g + 1 + 1) 32 #[.int .i64 p, .int .u64 q] (0, 0) _ rfl (by refine blk_put (cs := #[.int .i64 p, .int .u64 0]) ?_ 1 _ rfl; refine blk_put (cs := #[.int .i64 0, .int .u64 0]) ?_ 0 _ rfl; exact hS0.2.2.1) Try.underlying32 rfl (by kernel_rfl)) rfl ?_
          exact ⟨rfl, by rw [← HG.out]; exact (hS0.2.2.2.setCell (by show g ≤ g + 1 + 1; omega) _).setCell (by show g ≤ g + 1 + 1; omega) _⟩
    · clear hix
      refine B.step (v := .pointer (some ⟨W4.heap.size, 0, none⟩)) (w' := W4.alloc (.cells #[.int .i64 0, .int .u64 0] 32 (0, 0))) rfl rfl (by go_simp) ?_
      have hz := blk_new W4 (.cells #[.int .i64 0, .int .u64 0] 32 (0, 0))
      have zl : g + 1 + 1 < W4.heap.size := blk_lt hS0.2.2.1
      replace hS0 : (fun V9 : World => V9.heap[g]? = some (.cells #[.int .i64 a0, .int .u64 a1] 32 (0, 0)) ∧ V9.heap[g + 1]? = some (.cells #[.int .i64 b0, .int .u64 b1] 32 (0, 0)) ∧ V9.heap[g + 1 + 1]? = some (.cells #[.int .i64 0, .int .u64 0] 32 (0, 0)) ∧ Below g w V9) (W4.alloc (.cells #[.int .i64 0, .int .u64 0] 32 (0, 0))) := ⟨blk_alloc hS0.1 _, blk_alloc hS0.2.1 _, blk_alloc hS0.2.2.1 _, hS0.2.2.2.alloc (Nat.le_of_lt (blk_lt hS0.1)) _⟩
      generalize W4.heap.size = z at *
      generalize W4.alloc (.cells #[.int .i64 0, .int .u64 0] 32 (0, 0)) = W5 at *
      refine ⟨hS0, ?_⟩
      refine lombardref02_sum.norm (a' := { tmps := #[.agg #[.int .i64 a0, .int .u64 a1], .agg #[.int .i64 b0, .int .u64 b1], .pointer (some ⟨g, 0, none⟩), .pointer (some ⟨g + 1, 0, none⟩), .pointer (some ⟨g + 1 + 1, 0, none⟩), .int .i64 0, .pointer (some ⟨z, 0, none⟩), undef, undef, .agg #[.int .i64 a0, .int .u64 a1], undef, .agg #[.int .i64 b0, .int .u64 b1], undef, undef, undef, undef, undef, undef, undef, undef, undef], defers := [] }) (by kernel_rfl) ?_
      refine wpAnyH_all (rs := [1]) (by kernel_rfl) (by simp) ?_
      intro ix hix
      obtain rfl : ix = 1 := by simpa using hix
      clear hix
      refine B.opCall1 rfl rfl (.agg #[.int .i64 a0, .int .u64 a1]) 52 Try.f52 (.tmp 9) _ Try.func52 (by kernel_rfl) rfl rfl rfl ?_
      refine (BA.out _).mono ?_
      rintro e W6 ⟨rfl, hb⟩
      replace hz := blk_below hz hb
      replace hS0 : (fun V9 : World => V9.heap[g]? = some (.cells #[.int .i64 a0, .int .u64 a1] 32 (0, 0)) ∧ V9.heap[g + 1]? = some (.cells #[.int .i64 b0, .int .u64 b1] 32 (0, 0)) ∧ V9.heap[g + 1 + 1]? = some (.cells #[.int .i64 0, .int .u64 0] 32 (0, 0)) ∧ Below g w V9) W6 := ⟨blk_below hS0.1 hb, blk_below hS0.2.1 hb, blk_below hS0.2.2.1 hb, hS0.2.2.2.trans (hb.mono (Nat.le_of_lt (blk_lt hS0.1)))⟩
      clear hb
      refine ⟨_, rfl, hS0, ?_⟩
      refine lombardref02_sum.norm (a' := { tmps := #[.agg #[.int .i64 a0, .int .u64 a1], .agg #[.int .i64 b0, .int .u64 b1], .pointer (some ⟨g, 0, none⟩), .pointer (some ⟨g + 1, 0, none⟩), .pointer (some ⟨g + 1 + 1, 0, none⟩), .int .i64 0, .pointer (some ⟨z, 0, none⟩), undef, undef, .agg #[.int .i64 a0, .int .u64 a1], .agg (B.big la X), .agg #[.int .i64 b0, .int .u64 b1], undef, undef, undef, undef, undef, undef, undef, undef, undef], defers := [] }) (by kernel_rfl) ?_
      refine wpAnyH_all (rs := [3]) (by kernel_rfl) (by simp) ?_
      intro ix hix
      obtain rfl : ix = 3 := by simpa using hix
      clear hix
      refine B.opCall1 rfl rfl (.agg #[.int .i64 b0, .int .u64 b1]) 52 Try.f52 (.tmp 11) _ Try.func52 (by kernel_rfl) rfl rfl rfl ?_
      refine (BB.out _).mono ?_
      rintro e W7 ⟨rfl, hb⟩
      replace hz := blk_below hz hb
      replace hS0 : (fun V9 : World => V9.heap[g]? = some (.cells #[.int .i64 a0, .int .u64 a1] 32 (0, 0)) ∧ V9.heap[g + 1]? = some (.cells #[.int .i64 b0, .int .u64 b1] 32 (0, 0)) ∧ V9.heap[g + 1 + 1]? = some (.cells #[.int .i64 0, .int .u64 0] 32 (0, 0)) ∧ Below g w V9) W7 := ⟨blk_below hS0.1 hb, blk_below hS0.2.1 hb, blk_below hS0.2.2.1 hb, hS0.2.2.2.trans (hb.mono (Nat.le_of_lt (blk_lt hS0.1)))⟩
      clear hb
      refine ⟨_, rfl, hS0, ?_⟩
      refine lombardref02_sum.norm (a' := { tmps := #[.agg #[.int .i64 a0, .int .u64 a1], .agg #[.int .i64 b0, .int .u64 b1], .pointer (some ⟨g, 0, none⟩), .pointer (some ⟨g + 1, 0, none⟩), .pointer (some ⟨g + 1 + 1, 0, none⟩), .int .i64 0, .pointer (some ⟨z, 0, none⟩), undef, undef, .agg #[.int .i64 a0, .int .u64 a1], .agg (B.big la X), .agg #[.int .i64 b0, .int .u64 b1], .agg (B.big lb Y), undef, undef, undef, undef, undef, undef, undef, undef], defers := [] }) (by kernel_rfl) ?_
      refine wpAnyH_all (rs := [4]) (by kernel_rfl) (by simp) ?_
      intro ix hix
      obtain rfl : ix = 4 := by simpa using hix
      clear hix
      refine B.opCall rfl rfl (.agg (B.big la X)) (.agg (B.big lb Y)) 63 Try.f63 (.tmp 10) (.tmp 12) _ Try.func63 (by kernel_rfl) rfl rfl rfl rfl ?_
      refine (SM.out _).mono ?_
      rintro e W8 ⟨rfl, hb⟩
      replace hz := blk_below hz hb
      replace hS0 : (fun V9 : World => V9.heap[g]? = some (.cells #[.int .i64 a0, .int .u64 a1] 32 (0, 0)) ∧ V9.heap[g + 1]? = some (.cells #[.int .i64 b0, .int .u64 b1] 32 (0, 0)) ∧ V9.heap[g + 1 + 1]? = some (.cells #[.int .i64 0, .int .u64 0] 32 (0, 0)) ∧ Below g w V9) W8 := ⟨blk_below hS0.1 hb, blk_below hS0.2.1 hb, blk_below hS0.2.2.1 hb, hS0.2.2.2.trans (hb.mono (Nat.le_of_lt (blk_lt hS0.1)))⟩
      clear hb
      refine ⟨_, rfl, hS0, ?_⟩
      refine lombardref02_sum.norm (a' := { tmps := #[.agg #[.int .i64 a0, .int .u64 a1], .agg #[.int .i64 b0, .int .u64 b1], .pointer (some ⟨g, 0, none⟩), .pointer (some ⟨g + 1, 0, none⟩), .pointer (some ⟨g + 1 + 1, 0, none⟩), .int .i64 0, .pointer (some ⟨z, 0, none⟩), undef, undef, .agg #[.int .i64 a0, .int .u64 a1], .agg (B.big la X), .agg #[.int .i64 b0, .int .u64 b1], .agg (B.big lb Y), .agg (B.big l N), undef, undef, undef, undef, undef, undef, undef], defers := [] }) (by kernel_rfl) ?_
      refine wpAnyH_all (rs := [5]) (by kernel_rfl) (by simp) ?_
      intro ix hix
      obtain rfl : ix = 5 := by simpa using hix
      clear hix
      refine B.opCall1 rfl rfl (.agg (B.big l N)) 62 Try.f62 (.tmp 13) _ Try.func62 (by kernel_rfl) rfl rfl rfl ?_
      refine (BK.out _).mono ?_
      rintro e W9 ⟨rfl, hb⟩
      replace hz := blk_below hz hb
      replace hS0 : (fun V9 : World => V9.heap[g]? = some (.cells #[.int .i64 a0, .int .u64 a1] 32 (0, 0)) ∧ V9.heap[g + 1]? = some (.cells #[.int .i64 b0, .int .u64 b1] 32 (0, 0)) ∧ V9.heap[g + 1 + 1]? = some (.cells #[.int .i64 0, .int .u64 0] 32 (0, 0)) ∧ Below g w V9) W9 := ⟨blk_below hS0.1 hb, blk_below hS0.2.1 hb, blk_below hS0.2.2.1 hb, hS0.2.2.2.trans (hb.mono (Nat.le_of_lt (blk_lt hS0.1)))⟩
      clear hb
      refine ⟨_, rfl, hS0, ?_⟩
      refine lombardref02_sum.norm (a' := { tmps := #[.agg #[.int .i64 a0, .int .u64 a1], .agg #[.int .i64 b0, .int .u64 b1], .pointer (some ⟨g, 0, none⟩), .pointer (some ⟨g + 1, 0, none⟩), .pointer (some ⟨g + 1 + 1, 0, none⟩), .int .i64 0, .pointer (some ⟨z, 0, none⟩), undef, undef, .agg #[.int .i64 a0, .int .u64 a1], .agg (B.big la X), .agg #[.int .i64 b0, .int .u64 b1], .agg (B.big lb Y), .agg (B.big l N), .tuple #[.agg #[.int .i64 p, .int .u64 q], .bool ok], undef, undef, undef, undef, undef, undef], defers := [] }) (by kernel_rfl) ?_
      refine wpAnyH_take (i := 6) (v := .tuple #[.agg #[.int .i64 p, .int .u64 q], .bool ok]) rfl (by kernel_rfl) (by kernel_rfl) (by kernel_rfl) (fun _ _ _ h => h) (Or.inl ⟨by kernel_rfl, fun W9 hS => by go_simp⟩) hS0 ?_
      refine lombardref02_sum.norm (a' := { tmps := #[.agg #[.int .i64 a0, .int .u64 a1], .agg #[.int .i64 b0, .int .u64 b1], .pointer (some ⟨g, 0, none⟩), .pointer (some ⟨g + 1, 0, none⟩), .pointer (some ⟨g + 1 + 1, 0, none⟩), .int .i64 0, .pointer (some ⟨z, 0, none⟩), undef, .tuple #[.agg #[.int .i64 p, .int .u64 q], .bool ok], .agg #[.int .i64 a0, .int .u64 a1], .agg (B.big la X), .agg #[.int .i64 b0, .int .u64 b1], .agg (B.big lb Y), .agg (B.big l N), .tuple #[.agg #[.int .i64 p, .int .u64 q], .bool ok], undef, undef, undef, undef, undef, undef], defers := [] }) (by kernel_rfl) ?_
      refine wpAnyH_take (i := 7) (v := .agg #[.int .i64 p, .int .u64 q]) rfl (by kernel_rfl) (by kernel_rfl) (by kernel_rfl) (fun _ _ _ h => h) (Or.inl ⟨by kernel_rfl, fun W9 hS => by go_simp⟩) hS0 ?_
      refine wpAnyH_take (i := 8) (v := .bool ok) rfl (by kernel_rfl) (by kernel_rfl) (by kernel_rfl) (fun _ _ _ h => h) (Or.inl ⟨by kernel_rfl, fun W9 hS => by go_simp⟩) hS0 ?_
      refine lombardref02_sum.norm (a' := { tmps := #[.agg #[.int .i64 a0, .int .u64 a1], .agg #[.int .i64 b0, .int .u64 b1], .pointer (some ⟨g, 0, none⟩), .pointer (some ⟨g + 1, 0, none⟩), .pointer (some ⟨g + 1 + 1, 0, none⟩), .int .i64 0, .pointer (some ⟨z, 0, none⟩), undef, .tuple #[.agg #[.int .i64 p, .int .u64 q], .bool ok], .agg #[.int .i64 a0, .int .u64 a1], .agg (B.big la X), .agg #[.int .i64 b0, .int .u64 b1], .agg (B.big lb Y), .agg (B.big l N), .tuple #[.agg #[.int .i64 p, .int .u64 q], .bool ok], .agg #[.int .i64 p, .int .u64 q], .bool ok, undef, undef, undef, undef], defers := [] }) (by kernel_rfl) ?_
      refine wpAnyH_all (rs := [10]) (by kernel_rfl) (by simp) ?_
      intro ix hix
      obtain rfl : ix = 10 := by simpa using hix
      clear hix
      refine B.opStoreI rfl rfl (.tmp 6) (.tmp 15) rfl z p q _ (by rfl) rfl rfl hz ?_
      have hn := setRow_heap W9 z _ #[.int .i64 p, .int .u64 q] _ _ hz
      replace hS0 : (fun V9 : World => V9.heap[g]? = some (.cells #[.int .i64 a0, .int .u64 a1] 32 (0, 0)) ∧ V9.heap[g + 1]? = some (.cells #[.int .i64 b0, .int .u64 b1] 32 (0, 0)) ∧ V9.heap[g + 1 + 1]? = some (.cells #[.int .i64 0, .int .u64 0] 32 (0, 0)) ∧ Below g w V9) (W9.setRow z #[.int .i64 p, .int .u64 q]) := ⟨(setRow_other _ _ _ _ (by omega)).trans hS0.1, (setRow_other _ _ _ _ (by omega)).trans hS0.2.1, (setRow_other _ _ _ _ (by omega)).trans hS0.2.2.1, B.below_row hS0.2.2.2 (by omega) _⟩
      clear hz
      generalize W9.setRow z #[.int .i64 p, .int .u64 q] = W10 at *
      refine ⟨hS0, ?_⟩
      refine lombardref02_sum.norm (a' := { tmps := #[.agg #[.int .i64 a0, .int .u64 a1], .agg #[.int .i64 b0, .int .u64 b1], .pointer (some ⟨g, 0, none⟩), .pointer (some ⟨g + 1, 0, none⟩), .pointer (some ⟨g + 1 + 1, 0, none⟩), .int .i64 0, .pointer (some ⟨z, 0, none⟩), undef, .tuple #[.agg #[.int .i64 p, .int .u64 q], .bool ok], .agg #[.int .i64 a0, .int .u64 a1], .agg (B.big la X), .agg #[.int .i64 b0, .int .u64 b1], .agg (B.big lb Y), .agg (B.big l N), .tuple #[.agg #[.int .i64 p, .int .u64 q], .bool ok], .agg #[.int .i64 p, .int .u64 q], .bool ok, undef, undef, undef, undef], defers := [] }) (by kernel_rfl) ?_
      refine wpAnyH_take (i := 11) (v := .bool ok) rfl (by kernel_rfl) (by kernel_rfl) (by kernel_rfl) (fun _ _ _ h => h) (Or.inl ⟨by kernel_rfl, fun W9 hS => by go_simp⟩) hS0 ?_
      refine lombardref02_sum.norm (a' := { tmps := #[.agg #[.int .i64 a0, .int .u64 a1], .agg #[.int .i64 b0, .int .u64 b1], .pointer (some ⟨g, 0, none⟩), .pointer (some ⟨g + 1, 0, none⟩), .pointer (some ⟨g + 1 + 1, 0, none⟩), .int .i64 0, .pointer (some ⟨z, 0, none⟩), .bool ok, .tuple #[.agg #[.int .i64 p, .int .u64 q], .bool ok], .agg #[.int .i64 a0, .int .u64 a1], .agg (B.big la X), .agg #[.int .i64 b0, .int .u64 b1], .agg (B.big lb Y), .agg (B.big l N), .tuple #[.agg #[.int .i64 p, .int .u64 q], .bool ok], .agg #[.int .i64 p, .int .u64 q], .bool ok, undef, undef, undef, undef], defers := [] }) (by kernel_rfl) ?_
      refine wpAnyH_done (by kernel_rfl) ?_ _
      have f0 := blk_cell hn 0
      have f1 := blk_cell hn 1
      have e0 := blk_cell hS0.2.2.1 0
      have e1 := blk_cell hS0.2.2.1 1
      have z0 := blk_frozen hS0.2.2.1 0
      have z1 := blk_frozen hS0.2.2.1 1
      rename_i K1 hK1
      show K1 _ _
      refine hK1 _ _ ?_
      clear hK1
      cases ok with
      | false =>
        have r0 := Z0.out rfl
        have r3 : 3 = r3 := R3.out
        obtain ⟨rfl, rfl⟩ := r0
        subst r3
        go_wp2
        refine bodyPost_ret (results_ct rfl _ _ (g + 1 + 1) 32 #[.int .i64 0, .int .u64 0] (0, 0) _ rfl (by refine blk_put (cs := #[.int .i64 0, .int .u64 0]) ?_ 1 _ rfl; refine blk_put (cs := #[.int .i64 0, .int .u64 0]) ?_ 0 _ rfl; exact hS0.2.2.1) Try.underlying32 rfl (by kernel_rfl)) rfl ?_
        exact ⟨rfl, by rw [← HG.out]; exact (hS0.2.2.2.setCell (by show g ≤ g + 1 + 1; omega) _).setCell (by show g ≤ g + 1 + 1; omega) _⟩
      | true =>
        have r3 : 0 = r3 := R3.out
        subst r3
        go_wp2
        refine bodyPost_ret (results_ct rfl _ _ (g + 1 + 1) 32 #[.int .i64 p, .int .u64 q] (0, 0) _ rfl (by refine blk_put (cs := #[.int .i64 p, .int .u64 0]) ?_ 1 _ rfl; refine blk_put (cs := #[.int .i64 0, .int .u64 0]) ?_ 0 _ rfl; exact hS0.2.2.1) Try.underlying32 rfl (by kernel_rfl)) rfl ?_
        exact ⟨rfl, by rw [← HG.out]; exact (hS0.2.2.2.setCell (by show g ≤ g + 1 + 1; omega) _).setCell (by show g ≤ g + 1 + 1; omega) _⟩
  · exact absurd h (by simp)


end Go.Proofs.Ytohbdjfabghagaa.S
