/- Printed by a program of this session out of the translation: what each function called here computes, and that its call comes to just that. Conditions: none beyond those that each theorem names. -/
import Derived.Test.YtohbdjfabghagaaSx0
import Derived.Test.YtohbdjfabghagaaSxLombardref02Size
import Derived.Test.YtohbdjfabghagaaSxLombardref02Minus
namespace Go.Proofs.Ytohbdjfabghagaa.S
open Go.RowKit Go.Proofs.YtohbdjfabghagaaW.PrintWords Go.Proofs.YtohbdjfabghagaaW.PrintLast Go.Proofs.YtohbdjfabghagaaW.PrintMore
attribute [local go_sem] max2_int min2_int max_two min_two max_three min_three max_four min_four   -- for this text's walks alone
attribute [local go_sem] Go.Proofs.Ytohbdjfabghagaa.XWalk.cell2
set_option linter.unusedVariables false
set_option linter.unusedSimpArgs false

/-! ### lombardref02_quo: function 67 -/
-- IMPORT BigMath
/-- bits that are being moved one up: those above k are moved -/
def B.sh (R k : Nat) : Array Value := Array.ofFn (n := 260) fun j => .int .u8 (if k < j.val then B.bit R (j.val - 1) else B.bit R j.val)
theorem B.sh_size (R k : Nat) : (B.sh R k).size = 260 := by unfold B.sh; exact Array.size_ofFn
theorem B.sh_get (R k j : Nat) (h : j < 260) : (B.sh R k)[j]? = some (.int .u8 (if k < j then B.bit R (j - 1) else B.bit R j)) := by
  unfold B.sh
  rw [Array.getElem?_ofFn, dif_pos h]
theorem B.sh_start (R : Nat) : B.sh R 259 = B.cells R := by
  refine B.ext _ _ (B.sh_size _ _) fun j hj => ?_
  rw [B.sh_get _ _ _ hj, if_neg (by omega)]
theorem B.sh_step (R k : Nat) (h : k + 1 < 260) : (B.sh R (k + 1)).setIfInBounds (k + 1) (.int .u8 (B.bit R k)) = B.sh R k := by
  apply Array.ext_getElem?
  intro j
  by_cases hj : j < 260
  · rw [Array.getElem?_setIfInBounds]
    by_cases c : k + 1 = j
    · subst c
      rw [if_pos rfl, if_pos (by rw [B.sh_size]; exact h), B.sh_get _ _ _ h, if_pos (by omega)]
      rfl
    · rw [if_neg c, B.sh_get _ _ _ hj, B.sh_get _ _ _ hj]
      by_cases d : k + 1 < j
      · rw [if_pos d, if_pos (by omega)]
      · rw [if_neg d, if_neg (by omega)]
  · rw [Array.getElem?_eq_none (by rw [Array.size_setIfInBounds, B.sh_size]; omega), Array.getElem?_eq_none (by rw [B.sh_size]; omega)]
theorem B.sh_end (R x : Nat) (hx : x < 2) (hR : R < 2 ^ 259) : (B.sh R 0).setIfInBounds 0 (.int .u8 (x : Int)) = B.cells (2 * R + x) := by
  refine B.ext _ _ (by rw [Array.size_setIfInBounds, B.sh_size]) fun j hj => ?_
  rw [Array.getElem?_setIfInBounds]
  cases j with
  | zero =>
    rw [if_pos rfl, if_pos (by rw [B.sh_size]; omega)]
    unfold B.bit
    rw [Go.Proofs.Ytohbdjfabghagaa.BigMath.bitN_up0 hx]
  | succ j =>
    rw [if_neg (by omega), B.sh_get _ _ _ hj, if_pos (by omega), Nat.add_sub_cancel]
    unfold B.bit
    rw [Go.Proofs.Ytohbdjfabghagaa.BigMath.bitN_up hx]
def B.HasC (w : World) (g : Nat) (cs : Array Value) : Prop := w.heap[g]? = some (.cells cs 73 (0, 0))
theorem B.HasC.cell {w : World} {g : Nat} {cs : Array Value} (h : B.HasC w g cs) (i : Nat) : w.cell? ⟨g, i, none⟩ = cs[i]? := cell_of_row w g i _ _ _ h
theorem B.HasC.put {w : World} {g : Nat} {cs : Array Value} (h : B.HasC w g cs) (i : Nat) (u : Value) : B.HasC (w.setCell ⟨g, i, none⟩ u) g (cs.setIfInBounds i u) := blk_set h i u
theorem B.load {o : Oper} {ρ : Operand → Value} {W : World} {g N : Nat} (x : Operand) (ho : o.op = .load 73 x) (hx : ρ x = .pointer (some ⟨g, 0, none⟩)) (h : B.HasC W g (B.cells N)) : (execOp ρ o).run Try.prog W = .ok (.value (.agg (B.cells N))) W := by
  have r := run_loadVar_row (P := Try.prog) W g 73 73 (B.cells N) (0, 0) _ h B.under rfl (B.infoN _)
  unfold execOp
  simp only [ho, hx, Instr.loadAt, Instr.sureAddr, Sem.run_bind, Sem.run_pure, Result.andThen_ok, r]
theorem B.opStore {ops : Array Oper} {i : Nat} {o : Oper} {K : Act → World → Prop} {Q : Exit → Act → World → Prop} {a : Act} {w : World} (hi : ops[i]? = some o) (hg : o.guard = none) (x y : Operand) (ho : o.op = .store 73 x y)
    (g N M : Nat) (hx : a.eval x = .pointer (some ⟨g, 0, none⟩)) (hy : a.eval y = .agg (B.cells N)) (hold : B.HasC w g (B.cells M)) (h : K (a.put o.dst undef) (w.setRow g (B.cells N))) : wpOp Try.prog ops Q i K a w := by
  unfold wpOp
  simp only [hi]
  rw [if_pos (by simp [Region.wanted, hg])]
  exact Or.inl (wp_store_row (P := Try.prog) 73 x y ho g (B.cells N) hx hy 73 (B.cells M) hold (B.infoN _) (by rw [B.size, B.size]) (B.plain _) h)
theorem B.HasC.setR {w : World} {g : Nat} {cs : Array Value} (h : B.HasC w g cs) {k : Nat} (cs' : Array Value) (hk : g ≠ k) : B.HasC (w.setRow k cs') g cs := (setRow_other w k g cs' hk).trans h
theorem B.HasC.row {w : World} {g : Nat} {cs : Array Value} (h : B.HasC w g cs) (cs' : Array Value) : B.HasC (w.setRow g cs') g cs' := setRow_heap w g _ _ _ _ h
/-- a bit of the quotient -/
theorem B.Has.one {w : World} {g Q i : Nat} (h : B.Has w g (Q / 2 ^ (i + 1) * 2 ^ (i + 1))) (hi : i < 260) (hq : Go.Proofs.Ytohbdjfabghagaa.BigMath.bitN Q i = 1) : B.Has (w.setCell ⟨g, i, none⟩ (.int .u8 1)) g (Q / 2 ^ i * 2 ^ i) := by
  have := blk_set h i (.int .u8 1)
  have e : (B.cells (Q / 2 ^ (i + 1) * 2 ^ (i + 1))).setIfInBounds i (.int .u8 1) = B.cells (Q / 2 ^ i * 2 ^ i) := by
    refine B.ext _ _ (by rw [Array.size_setIfInBounds, B.size]) fun j hj => ?_
    rw [Array.getElem?_setIfInBounds]
    by_cases c : i = j
    · subst c
      rw [if_pos rfl, if_pos (by rw [B.size]; exact hi)]
      unfold B.bit
      rw [Go.Proofs.Ytohbdjfabghagaa.BigMath.bitN_high, if_pos (by omega), hq]
      rfl
    · rw [if_neg c, B.get _ _ hj]
      unfold B.bit
      rw [Go.Proofs.Ytohbdjfabghagaa.BigMath.bitN_high, Go.Proofs.Ytohbdjfabghagaa.BigMath.bitN_high]
      by_cases d : i + 1 ≤ j
      · rw [if_pos d, if_pos (by omega)]
      · rw [if_neg d, if_neg (by omega)]
  rw [e] at this
  exact this
theorem lombardref02_quo.null (a b m : Nat) (h : a / b / 2 ^ m = 0) : a / b / 2 ^ m * 2 ^ m = 0 := by rw [h, Nat.zero_mul]
theorem lombardref02_quo.pows (n r b : Nat) (hr : r < b) (hb : b < 2 ^ n) (m1 m2 : Nat) (h1 : n ≤ m1) (h2 : n + 1 ≤ m2) : r < 2 ^ m1 ∧ 2 * r + 1 < 2 ^ m2 ∧ b < 2 ^ m2 := by
  have a := Nat.pow_le_pow_right (show 2 > 0 by decide) h1
  have c := Nat.pow_le_pow_right (show 2 > 0 by decide) h2
  rw [Nat.pow_succ] at c
  omega
set_option maxRecDepth 100000 in
set_option maxHeartbeats 8000000 in
theorem lombardref02_quo.calls (a b : Nat) (ha : a < 2 ^ 260) (hb0 : 0 < b) (hb : b < 2 ^ 256) (w : World) : Calls Try.prog 67 #[.agg (B.cells a), .agg (B.cells b)] w fun e w' => e = .returned (.tuple #[.agg (B.cells (a / b)), .agg (B.cells (a % b))]) ∧ Below w.heap.size w w' := by
  have h0 : a / 2 ^ 260 = 0 := Nat.div_eq_of_lt ha
  have q0 : a / b / 2 ^ 260 = 0 := Nat.div_eq_of_lt (Nat.lt_of_le_of_lt (Nat.div_le_self a b) ha)
  have hPr : ∀ r : Nat, r < b → r < 2 ^ 259 ∧ 2 * r + 1 < 2 ^ 260 ∧ b < 2 ^ 260 := fun r hr => lombardref02_quo.pows 256 r b hr hb 259 260 (by decide) (by decide)
  have HB0 := Aside0.mk hb0
  have HP := Aside0.mk hPr
  have H0 := Aside0.mk h0
  have Q0 := Aside0.mk q0
  clear ha hb hb0 h0 q0 hPr
  go_enter Try.func67, Try.ntmps67
  go_wp2
  go_loopg [8] 260 (fun kq v8 w' => ∃ (i : Int), v8 = .int .i64 i ∧ Aside0 (i + 1 = kq) ∧ Aside0 (kq ≤ 260) ∧ Aside0 (B.Has w' w.heap.size a) ∧ Aside0 (B.Has w' (w.heap.size + 1) b) ∧ Aside0 (B.Has w' (w.heap.size + 1 + 1) 0) ∧ Aside0 (B.Has w' (w.heap.size + 1 + 1 + 1) 0) ∧ Aside0 (B.Has w' (w.heap.size + 1 + 1 + 1 + 1) (a / b / 2 ^ kq * 2 ^ kq)) ∧ Aside0 (B.Has w' (w.heap.size + 1 + 1 + 1 + 1 + 1) (a / 2 ^ kq % b)) ∧ Aside0 (Below w.heap.size w w'))
  case atStart =>
    have h1 := B.Has.new w a
    have h2 := B.Has.new (w.alloc (.cells (B.cells a) 73)) b
    have h3 := B.Has.new0 ((w.alloc (.cells (B.cells a) 73)).alloc (.cells (B.cells b) 73))
    have h4 := B.Has.new0 (((w.alloc (.cells (B.cells a) 73)).alloc (.cells (B.cells b) 73)).alloc (.cells Try.zeroCells73 73))
    have h5 := B.Has.new0 ((((w.alloc (.cells (B.cells a) 73)).alloc (.cells (B.cells b) 73)).alloc (.cells Try.zeroCells73 73)).alloc (.cells Try.zeroCells73 73))
    have h6 := B.Has.new0 (((((w.alloc (.cells (B.cells a) 73)).alloc (.cells (B.cells b) 73)).alloc (.cells Try.zeroCells73 73)).alloc (.cells Try.zeroCells73 73)).alloc (.cells Try.zeroCells73 73))
    simp only [World.size_alloc] at h2 h3 h4 h5 h6
    refine ⟨259, rfl, ⟨by omega⟩, ⟨by omega⟩, ⟨((((h1.alloc _).alloc _).alloc _).alloc _).alloc _⟩, ⟨(((h2.alloc _).alloc _).alloc _).alloc _⟩, ⟨((h3.alloc _).alloc _).alloc _⟩, ⟨(h4.alloc _).alloc _⟩, ⟨?_⟩, ⟨?_⟩, ⟨?_⟩⟩
    · rw [lombardref02_quo.null a b 260 Q0.out]
      exact h5.alloc _
    · rw [H0.out, Nat.zero_mod]
      exact h6
    · exact below_alloc (below_alloc (below_alloc (below_alloc (below_alloc (below_alloc (Below.refl _ w) _) _) _) _) _) _
  case round =>
    obtain ⟨i, rfl, hik, hk, hA, hB, hY, hZ, hQ, hR, hW⟩ := hrel
    cases gk with
    | zero =>
      have e : i = -1 := by have := hik.out; omega
      subst e
      have z1 : a / b / 2 ^ 0 * 2 ^ 0 = a / b := by rw [Nat.pow_zero, Nat.div_one, Nat.mul_one]
      have z2 : a / 2 ^ 0 % b = a % b := by rw [Nat.pow_zero, Nat.div_one]
      have hQ' := hQ.out
      have hR' := hR.out
      rw [z1] at hQ'
      rw [z2] at hR'
      have hY' : B.HasC wr (w.heap.size + 1 + 1) (B.cells 0) := hY.out
      have hZ' : B.HasC wr (w.heap.size + 1 + 1 + 1) (B.cells 0) := hZ.out
      have hW' := hW.out
      clear hik hk hA hB hY hZ hQ hR hW z1 z2 H0 Q0 HP HB0
      go_upto_region 13 with (fail)
      refine wp_region_held (S := fun W => B.HasC W (w.heap.size + 1 + 1 + 1 + 1) (B.cells (a / b)) ∧ B.HasC W (w.heap.size + 1 + 1 + 1 + 1 + 1) (B.cells (a % b))) (by kernel_rfl) ?_
      refine wpAnyH_take (i := 0) (v := .agg (B.cells (a / b))) rfl (by kernel_rfl) (by kernel_rfl) (by kernel_rfl) (fun _ _ _ h => h) (Or.inl ⟨by rfl, fun W hS => B.load (.tmp 6) rfl rfl hS.1⟩) ⟨hQ', hR'⟩ ?_
      refine wpAnyH_take (i := 1) (v := .agg (B.cells (a % b))) rfl (by kernel_rfl) (by kernel_rfl) (by kernel_rfl) (fun _ _ _ h => h) (Or.inl ⟨by rfl, fun W hS => B.load (.tmp 7) rfl rfl hS.2⟩) ⟨hQ', hR'⟩ ?_
      refine wpAnyH_all (rs := [2]) (by kernel_rfl) (by simp) fun i hi => ?_
      obtain rfl : i = 2 := by simpa using hi
      refine B.opStore (i := 2) rfl rfl (.tmp 4) (.tmp 37) rfl (w.heap.size + 1 + 1) (a / b) 0 rfl rfl hY' ?_
      have h1 := (hY'.row (B.cells (a / b)))
      have h2 := hZ'.setR (k := w.heap.size + 1 + 1) (B.cells (a / b)) (by omega)
      have h3 := hQ'.setR (k := w.heap.size + 1 + 1) (B.cells (a / b)) (by omega)
      have h4 := hR'.setR (k := w.heap.size + 1 + 1) (B.cells (a / b)) (by omega)
      refine ⟨⟨h3, h4⟩, ?_⟩
      refine wpAnyH_all (rs := [3]) (by kernel_rfl) (by simp) fun i hi => ?_
      obtain rfl : i = 3 := by simpa using hi
      refine B.opStore (i := 3) rfl rfl (.tmp 5) (.tmp 38) rfl (w.heap.size + 1 + 1 + 1) (a % b) 0 rfl rfl h2 ?_
      refine ⟨⟨h3.setR _ (by omega), h4.setR _ (by omega)⟩, ?_⟩
      refine wpAnyH_done (by kernel_rfl) ?_ _
      have g1 := h1.setR (k := w.heap.size + 1 + 1 + 1) (B.cells (a % b)) (by omega)
      have g2 := h2.row (B.cells (a % b))
      have gW := B.below_row (B.below_row hW'.drew (k := w.heap.size + 1 + 1) (by omega) (B.cells (a / b))) (k := w.heap.size + 1 + 1 + 1) (by omega) (B.cells (a % b))
      clear hY' hZ' hQ' hR' hW' h1 h2 h3 h4
      go_wp2
      refine bodyPost_ret (results_cc (by rfl) _ _ (w.heap.size + 1 + 1) (w.heap.size + 1 + 1 + 1) 73 73 (B.cells (a / b)) (B.cells (a % b)) (0, 0) (0, 0) _ _ (by rfl) g1 B.under rfl (B.infoN _) (by rfl) g2 B.under rfl (B.infoN _)) rfl ?_
      exact ⟨rfl, gW⟩
    | succ k1 =>
      obtain rfl : i = (k1 : Int) := by have := hik.out; omega
      have hi : k1 < 260 := by have := hk.out; omega
      have q1 : decide ((k1 : Int) ≥ 0) = true := decide_eq_true (by omega)
      have q2 : decide ((0 : Int) ≤ (k1 : Int)) = true := decide_eq_true (by omega)
      go_wp2
      clear q1 q2
      have hR2 : B.HasC wr (w.heap.size + 1 + 1 + 1 + 1 + 1) (B.sh (a / 2 ^ (k1 + 1) % b) 259) := by rw [B.sh_start]; exact hR.out
      have HR2 := Aside0.mk hR2
      clear hR2
      go_loopg [9] 259 (fun kq v9 w' => ∃ (j : Nat), v9 = .int .i64 j ∧ Aside0 (j = kq) ∧ Aside0 (kq ≤ 259) ∧ Aside0 (B.Has w' w.heap.size a) ∧ Aside0 (B.Has w' (w.heap.size + 1) b) ∧ Aside0 (B.Has w' (w.heap.size + 1 + 1) 0) ∧ Aside0 (B.Has w' (w.heap.size + 1 + 1 + 1) 0) ∧ Aside0 (B.Has w' (w.heap.size + 1 + 1 + 1 + 1) (a / b / 2 ^ (k1 + 1) * 2 ^ (k1 + 1))) ∧ Aside0 (B.HasC w' (w.heap.size + 1 + 1 + 1 + 1 + 1) (B.sh (a / 2 ^ (k1 + 1) % b) kq)) ∧ Aside0 (Below w.heap.size w w'))
      case atStart => exact ⟨259, rfl, ⟨rfl⟩, ⟨by omega⟩, hA, hB, hY, hZ, hQ, HR2, hW⟩
      case round =>
        clear hA hB hY hZ hQ hR HR2 hW
        obtain ⟨j, rfl, hj, hj2, hA, hB, hY, hZ, hQ, hR, hW⟩ := hrel
        cases gk with
        | zero =>
          obtain rfl : j = 0 := hj.out
          have q1 : decide ((0 : Int) > 0) = false := by decide
          have xA := B.ix w.heap.size k1 hi
          have cA := hA.out.cell hi
          have xR := B.ix (w.heap.size + 1 + 1 + 1 + 1 + 1) 0 (by omega)
          have cR := hR.out.cell 0
          rw [B.sh_get _ _ _ (by omega)] at cR
          have fR := blk_frozen hR.out 0
          have lt := Nat.mod_lt (a / 2 ^ (k1 + 1)) HB0.out
          have nR := Aside0.mk (hR.out.put 0 (.int .u8 (B.bit a k1)))
          obtain ⟨p1, p2, p3⟩ := HP.out _ lt
          have x2 := Go.Proofs.Ytohbdjfabghagaa.BigMath.bitN_lt a k1
          have e1 : (B.sh (a / 2 ^ (k1 + 1) % b) 0).setIfInBounds 0 (.int .u8 (B.bit a k1)) = B.cells (2 * (a / 2 ^ (k1 + 1) % b) + Go.Proofs.Ytohbdjfabghagaa.BigMath.bitN a k1) := B.sh_end _ _ x2 p1
          rw [e1] at nR
          have lim : 2 * (a / 2 ^ (k1 + 1) % b) + Go.Proofs.Ytohbdjfabghagaa.BigMath.bitN a k1 < 2 ^ 260 := by omega
          clear e1 p1 p2 lt x2 hR
          go_upto_region 10 with (fail)
          have hA2 := hA.out.set ⟨w.heap.size + 1 + 1 + 1 + 1 + 1, 0, none⟩ (.int .u8 (B.bit a k1)) (by show w.heap.size ≠ w.heap.size + 1 + 1 + 1 + 1 + 1; omega)
          have hB2 := hB.out.set ⟨w.heap.size + 1 + 1 + 1 + 1 + 1, 0, none⟩ (.int .u8 (B.bit a k1)) (by show w.heap.size + 1 ≠ w.heap.size + 1 + 1 + 1 + 1 + 1; omega)
          have hY2 := hY.out.set ⟨w.heap.size + 1 + 1 + 1 + 1 + 1, 0, none⟩ (.int .u8 (B.bit a k1)) (by show w.heap.size + 1 + 1 ≠ w.heap.size + 1 + 1 + 1 + 1 + 1; omega)
          have hZ2 := hZ.out.set ⟨w.heap.size + 1 + 1 + 1 + 1 + 1, 0, none⟩ (.int .u8 (B.bit a k1)) (by show w.heap.size + 1 + 1 + 1 ≠ w.heap.size + 1 + 1 + 1 + 1 + 1; omega)
          have hQ2 := hQ.out.set ⟨w.heap.size + 1 + 1 + 1 + 1 + 1, 0, none⟩ (.int .u8 (B.bit a k1)) (by show w.heap.size + 1 + 1 + 1 + 1 ≠ w.heap.size + 1 + 1 + 1 + 1 + 1; omega)
          have hW2 := hW.out.setCell (p := ⟨w.heap.size + 1 + 1 + 1 + 1 + 1, 0, none⟩) (by show w.heap.size ≤ w.heap.size + 1 + 1 + 1 + 1 + 1; omega) (.int .u8 (B.bit a k1))
          have nR2 := nR.out
          clear hA hB hY hZ hQ hW nR xA cA xR cR fR q1 hj hj2
          generalize wr.setCell ⟨w.heap.size + 1 + 1 + 1 + 1 + 1, 0, none⟩ (.int .u8 (B.bit a k1)) = w2 at *
          generalize hr : 2 * (a / 2 ^ (k1 + 1) % b) + Go.Proofs.Ytohbdjfabghagaa.BigMath.bitN a k1 = r at *
          obtain ⟨st1, st2⟩ := Go.Proofs.Ytohbdjfabghagaa.BigMath.rest_step HB0.out a k1
          rw [hr] at st1 st2
          have b2 := (HP.out 0 HB0.out).2.2
          have SZ := fun W => lombardref02_size.calls r b lim b2 W
          by_cases c : r < b
          · obtain ⟨s1, s2⟩ := st1 c
            have o : lombardref02_size.ord r b = -1 := by unfold lombardref02_size.ord; rw [if_pos c]
            rw [o] at SZ
            have S1 := Aside0.mk s1
            have S2 := Aside0.mk s2
            clear st1 st2 s1 s2 o c hr lim b2
            go_upto_region 4 with (first | (refine wpList_load_row rfl 73 (.tmp 7) rfl (w.heap.size + 1 + 1 + 1 + 1 + 1) rfl 73 (B.cells r) (0, 0) _ nR2 B.under rfl (B.infoN _) ?_) | (refine wpList_load_row rfl 73 (.tmp 3) rfl (w.heap.size + 1) rfl 73 (B.cells b) (0, 0) _ hB2 B.under rfl (B.infoN _) ?_) | (go_at_call 68; refine (SZ _).mono ?_; rintro e w3 ⟨rfl, hb3⟩))
            have w3s : w.heap.size ≤ w2.heap.size := hW2.size
            have hW3 := below_then hW2 w3s hb3
            have e1 : B.Has w3 (w.heap.size + 1 + 1 + 1 + 1) (a / b / 2 ^ k1 * 2 ^ k1) := by
              rw [← Go.Proofs.Ytohbdjfabghagaa.BigMath.high_same S2.out]
              exact hQ2.below hb3
            have e2 : B.Has w3 (w.heap.size + 1 + 1 + 1 + 1 + 1) (a / 2 ^ k1 % b) := by
              rw [S1.out]
              exact blk_below nR2 hb3
            have z : wrap64 ((k1 : Int) - 1) = (k1 : Int) - 1 := by unfold wrap64; omega
            have Z := Aside0.mk z
            clear z
            go_wp2
            go_roundg k1
            case measure => omega
            case rel => exact ⟨(k1 : Int) - 1, by first | rfl | rw [Z.out], ⟨by omega⟩, ⟨by omega⟩, ⟨hA2.below hb3⟩, ⟨hB2.below hb3⟩, ⟨hY2.below hb3⟩, ⟨hZ2.below hb3⟩, ⟨e1⟩, ⟨e2⟩, ⟨hW3⟩⟩
          · obtain ⟨s1, s2⟩ := st2 (by omega)
            have o : decide (lombardref02_size.ord r b ≥ 0) = true := by
              unfold lombardref02_size.ord
              rw [if_neg c]
              split <;> rfl
            have o2 : decide ((0 : Int) ≤ lombardref02_size.ord r b) = true := o
            have S1 := Aside0.mk s1
            have S2 := Aside0.mk s2
            have MN := fun W => lombardref02_minus.calls r b lim (by omega) W
            clear st1 st2 s1 s2 c hr b2
            go_upto_region 11 with (first | (refine wpList_load_row rfl 73 (.tmp 7) rfl (w.heap.size + 1 + 1 + 1 + 1 + 1) rfl 73 (B.cells r) (0, 0) _ nR2 B.under rfl (B.infoN _) ?_) | (refine wpList_load_row rfl 73 (.tmp 3) rfl (w.heap.size + 1) rfl 73 (B.cells b) (0, 0) _ hB2 B.under rfl (B.infoN _) ?_) | (go_at_call 68; refine (SZ _).mono ?_; rintro e w3 ⟨rfl, hb3⟩))
            have hB3 := hB2.below hb3
            have nR3 := blk_below nR2 hb3
            clear SZ
            go_upto_region 12 with (first | (refine wpList_load_row rfl 73 (.tmp 7) rfl (w.heap.size + 1 + 1 + 1 + 1 + 1) rfl 73 (B.cells r) (0, 0) _ nR3 B.under rfl (B.infoN _) ?_) | (refine wpList_load_row rfl 73 (.tmp 3) rfl (w.heap.size + 1) rfl 73 (B.cells b) (0, 0) _ hB3 B.under rfl (B.infoN _) ?_) | (go_at_call 73; refine (MN _).mono ?_; rintro e w4 ⟨rfl, hb4⟩; have nR4 := blk_below nR3 hb4) | (refine wpList_store_row rfl 73 (.tmp 7) (.tmp 34) rfl (w.heap.size + 1 + 1 + 1 + 1 + 1) (B.cells (r - b)) rfl rfl 73 _ nR4 (B.infoN _) (by rw [B.size, B.size]) (B.plain _) ?_))
            have hQ4 := (hQ2.below hb3).below hb4
            have hQ5 := hQ4.setR (k := w.heap.size + 1 + 1 + 1 + 1 + 1) (B.cells (r - b)) (by omega)
            have hA5 := ((hA2.below hb3).below hb4).setR (k := w.heap.size + 1 + 1 + 1 + 1 + 1) (B.cells (r - b)) (by omega)
            have hB5 := ((hB2.below hb3).below hb4).setR (k := w.heap.size + 1 + 1 + 1 + 1 + 1) (B.cells (r - b)) (by omega)
            have hY5 := ((hY2.below hb3).below hb4).setR (k := w.heap.size + 1 + 1 + 1 + 1 + 1) (B.cells (r - b)) (by omega)
            have hZ5 := ((hZ2.below hb3).below hb4).setR (k := w.heap.size + 1 + 1 + 1 + 1 + 1) (B.cells (r - b)) (by omega)
            have hR5 : B.Has (w4.setRow (w.heap.size + 1 + 1 + 1 + 1 + 1) (B.cells (r - b))) (w.heap.size + 1 + 1 + 1 + 1 + 1) (r - b) := setRow_heap w4 _ _ _ _ _ nR4
            have w3s : w.heap.size ≤ w2.heap.size := hW2.size
            have hW3 := below_then hW2 w3s hb3
            have hW4 := below_then hW3 hW3.size hb4
            have hW5 := B.below_row hW4 (k := w.heap.size + 1 + 1 + 1 + 1 + 1) (by omega) (B.cells (r - b))
            generalize w4.setRow (w.heap.size + 1 + 1 + 1 + 1 + 1) (B.cells (r - b)) = w5 at *
            have xQ := B.ix (w.heap.size + 1 + 1 + 1 + 1) k1 hi
            have cQ := hQ5.cell hi
            have fQ := blk_frozen hQ5 k1
            clear hQ4 hW4 hW3 w3s nR4 hb4 MN nR3 hB3 hb3 o o2
            have z : wrap64 ((k1 : Int) - 1) = (k1 : Int) - 1 := by unfold wrap64; omega
            have Z := Aside0.mk z
            clear z
            have NQ := Aside0.mk (hQ5.one hi S2.out)
            go_upto_region 4 with (fail)
            go_wp2
            go_roundg k1
            case measure => omega
            case rel => exact ⟨(k1 : Int) - 1, by first | rfl | rw [Z.out], ⟨by omega⟩, ⟨by omega⟩, ⟨hA5.set _ _ (by show w.heap.size ≠ w.heap.size + 1 + 1 + 1 + 1; omega)⟩, ⟨hB5.set _ _ (by show w.heap.size + 1 ≠ w.heap.size + 1 + 1 + 1 + 1; omega)⟩, ⟨hY5.set _ _ (by show w.heap.size + 1 + 1 ≠ w.heap.size + 1 + 1 + 1 + 1; omega)⟩, ⟨hZ5.set _ _ (by show w.heap.size + 1 + 1 + 1 ≠ w.heap.size + 1 + 1 + 1 + 1; omega)⟩, NQ, ⟨by rw [S1.out]; exact hR5.set _ _ (by show w.heap.size + 1 + 1 + 1 + 1 + 1 ≠ w.heap.size + 1 + 1 + 1 + 1; omega)⟩, ⟨hW5.setCell (by show w.heap.size ≤ w.heap.size + 1 + 1 + 1 + 1; omega) _⟩⟩
        | succ k2 =>
          obtain rfl : j = k2 + 1 := hj.out
          have l1 : k2 + 1 < 260 := by have := hj2.out; omega
          have l2 : k2 < 260 := by omega
          have q1 : decide (((k2 + 1 : Nat) : Int) > 0) = true := decide_eq_true (by omega)
          have q2 : decide ((0 : Int) < ((k2 + 1 : Nat) : Int)) = true := decide_eq_true (by omega)
          have xA := B.ix (w.heap.size + 1 + 1 + 1 + 1 + 1) (k2 + 1) l1
          have xB := B.ix (w.heap.size + 1 + 1 + 1 + 1 + 1) k2 l2
          have xC : wrap64 (((k2 + 1 : Nat) : Int) - 1) = (k2 : Int) := by unfold wrap64; omega
          have cA : wr.cell? ⟨w.heap.size + 1 + 1 + 1 + 1 + 1, k2, none⟩ = some (.int .u8 (B.bit (a / 2 ^ (k1 + 1) % b) k2)) := by
            rw [hR.out.cell, B.sh_get _ _ _ l2, if_neg (by omega)]
          have fA := blk_frozen hR.out (k2 + 1)
          have cB := hR.out.cell (k2 + 1)
          rw [B.sh_get _ _ _ l1] at cB
          have nA := hR.out.put (k2 + 1) (.int .u8 (B.bit (a / 2 ^ (k1 + 1) % b) k2))
          rw [B.sh_step _ _ l1] at nA
          have NA := Aside0.mk nA
          clear nA
          go_upto_region 7 with (fail)
          go_wp2
          go_roundg k2
          case measure => omega
          case rel =>
            refine ⟨k2, by first | rfl | rw [xC], ⟨rfl⟩, ⟨by omega⟩, ⟨hA.out.set _ _ (by show w.heap.size ≠ w.heap.size + 1 + 1 + 1 + 1 + 1; omega)⟩, ⟨hB.out.set _ _ (by show w.heap.size + 1 ≠ w.heap.size + 1 + 1 + 1 + 1 + 1; omega)⟩, ⟨hY.out.set _ _ (by show w.heap.size + 1 + 1 ≠ w.heap.size + 1 + 1 + 1 + 1 + 1; omega)⟩, ⟨hZ.out.set _ _ (by show w.heap.size + 1 + 1 + 1 ≠ w.heap.size + 1 + 1 + 1 + 1 + 1; omega)⟩, ⟨hQ.out.set _ _ (by show w.heap.size + 1 + 1 + 1 + 1 ≠ w.heap.size + 1 + 1 + 1 + 1 + 1; omega)⟩, NA, ⟨hW.out.setCell (by show w.heap.size ≤ w.heap.size + 1 + 1 + 1 + 1 + 1; omega) _⟩⟩


end Go.Proofs.Ytohbdjfabghagaa.S
