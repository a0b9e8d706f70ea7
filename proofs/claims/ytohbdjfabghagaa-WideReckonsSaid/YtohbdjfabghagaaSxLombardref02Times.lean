/- Printed by a program of this session out of the translation: what each function called here computes, and that its call comes to just that. Conditions: none beyond those that each theorem names. -/
import Derived.Test.YtohbdjfabghagaaSx0
import Derived.Test.YtohbdjfabghagaaSxLombardref02Of
import Derived.Test.YtohbdjfabghagaaSxLombardref02Size
import Derived.Test.YtohbdjfabghagaaSxLombardref02Plus
import Derived.Test.YtohbdjfabghagaaSxLombardref02Big
import Derived.Test.YtohbdjfabghagaaSxLombardref02Small
namespace Go.Proofs.Ytohbdjfabghagaa.S
open Go.RowKit Go.Proofs.YtohbdjfabghagaaW.PrintWords Go.Proofs.YtohbdjfabghagaaW.PrintLast Go.Proofs.YtohbdjfabghagaaW.PrintMore
attribute [local go_sem] max2_int min2_int max_two min_two max_three min_three max_four min_four   -- for this text's walks alone
attribute [local go_sem] Go.Proofs.Ytohbdjfabghagaa.XWalk.cell2
set_option linter.unusedVariables false
set_option linter.unusedSimpArgs false

/-! ### lombardref02_times: function 53 -/
-- IMPORT BigMath
theorem B.HasB.lt {w : World} {g N : Nat} {less : Bool} (h : B.HasB w g less N) : g < w.heap.size := (Array.getElem?_eq_some_iff.1 h).1
/-- a row of bits put behind a sign -/
theorem B.storeVarB {W : World} {g N M : Nat} {less : Bool} (h : B.HasB W g less N) : (storeVar 73 ⟨g, 1, none⟩ (.agg (B.cells M))).run Try.prog W = .ok () (W.setRow g (B.big less M)) := by
  have st := run_storeCells_at Try.prog g 1 75 (B.cells M).toList 0 (B.big less N) W h (by rw [Array.length_toList, B.size, B.big_size]; omega) (fun v hv => (Array.all_eq_true_iff_forall_mem.1 (B.plain M)) v (by simpa using hv))
  have e : ((B.big less N).toList.take (1 + 0) ++ (B.cells M).toList ++ (B.big less N).toList.drop (1 + 0 + (B.cells M).toList.length)).toArray = B.big less M := by
    have q : ∀ K, (B.big less K).toList = .bool less :: (B.cells K).toList := fun K => by simp [B.big]
    rw [List.drop_eq_nil_of_le (by rw [Array.length_toList, Array.length_toList, B.size, B.big_size]; omega), q, List.append_nil]
    apply Array.ext'
    rw [q]
    rfl
  rw [e] at st
  have hi := B.info
  cases hq : Try.prog.info? 73 with
  | none => simp [hq] at hi
  | some i =>
    have hs : i.size = 260 := by simpa [hq] using hi
    simp [storeVar, sizeOf, typeInfo, hq, Value.cells, hs, B.size, st]
theorem B.wpStoreB {ops : Array Oper} {rest : List Oper} {o : Oper} {a : Act} {w : World} {Q : Exit → Act → World → Prop} (hgd : o.guard = none) (x y : Operand) (ho : o.op = .store 73 x y)
    (g N M : Nat) (less : Bool) (hx : a.eval x = .pointer (some ⟨g, 1, none⟩)) (hy : a.eval y = .agg (B.cells M)) (hg : B.HasB w g less N)
    (h : wpList Try.prog ops Q rest (a.put o.dst undef) (w.setRow g (B.big less M))) : wpList Try.prog ops Q (o :: rest) a w :=
  wpList_plain hgd fun _ hK => by
    unfold Oper.wp execOp
    simp only [ho, hx, hy, Instr.storeAt, Instr.sureAddr, Sem.run_bind, Sem.run_pure, Result.andThen_ok, B.storeVarB hg]
    exact hK _ _ h
theorem B.builtB (l : Bool) : (Try.prog.built 75 #[(0, Value.bool l)].toList).getD #[] = B.big l 0 := by
  have e : (Try.prog.built 75 #[(0, Value.bool l)].toList).getD #[] = Try.zeroCells75.setIfInBounds 0 (.bool l) := by cases l <;> kernel_rfl
  rw [e, B.zeroB, B.big_less]
theorem B.someB (l : Bool) : (Try.prog.built 75 #[(0, Value.bool l)].toList).isSome = true := by cases l <;> kernel_rfl
theorem B.wpBuildB {ops : Array Oper} {rest : List Oper} {o : Oper} {a : Act} {w : World} {Q : Exit → Act → World → Prop} (hgd : o.guard = none) (x : Operand) (ho : o.op = .build 75 #[(0, x)]) (l l2 : Bool) (hx : a.eval x = .bool l) (hl : l = l2)
    (h : wpList Try.prog ops Q rest (a.put o.dst (.agg (B.big l2 0))) w) : wpList Try.prog ops Q (o :: rest) a w := by
  subst hl
  have m : (#[((0 : Nat), x)].map fun (i, x) => (i, a.eval x)) = #[(0, Value.bool l)] := by simp [hx]
  refine wpList_build hgd 75 #[(0, x)] ho ?_ ?_
  · rw [m]
    exact B.someB l
  · rw [m, B.builtB]
    exact h
def B.ofHi (a : Int) : Int := if a < 0 then -1 else 0
def B.ofLo (a : Int) : Int := IntKind.u64.wrap a
theorem B.ofLo_eq (a : Int) : B.ofLo a = a % 18446744073709551616 := by
  unfold B.ofLo
  simp only [IntKind.wrap, IntKind.bits, IntKind.signed]
  simp
theorem B.of_f (a : Int) : lombardref02_Of.f a = some (B.ofHi a, B.ofLo a) := by
  unfold lombardref02_Of.f B.ofHi B.ofLo
  split <;> rfl
theorem B.of_less (a : Int) : B.less (B.ofHi a) = decide (a < 0) := by
  unfold B.less B.ofHi
  split <;> simp_all
theorem B.of_abs {a : Int} (h0 : -9223372036854775808 ≤ a) (h1 : a ≤ 9223372036854775807) : B.abs (B.ofHi a) (B.ofLo a) = a.natAbs := by
  have e : (2 : Nat) ^ 128 = 340282366920938463463374607431768211456 := by decide
  unfold B.abs B.two
  rw [B.ofLo_eq, e]
  unfold B.ofHi
  split <;> split <;> omega
theorem B.ofCalls (a : Int) (w : World) : Calls Try.prog 45 #[.int .i64 a] w fun e w' => e = .returned (.agg #[.int .i64 (B.ofHi a), .int .u64 (B.ofLo a)]) ∧ Below w.heap.size w w' :=
  lombardref02_Of.calls a _ _ w (B.of_f a)
theorem B.bigOf {a : Int} (h0 : -9223372036854775808 ≤ a) (h1 : a ≤ 9223372036854775807) (w : World) : Calls Try.prog 52 #[.agg #[.int .i64 (B.ofHi a), .int .u64 (B.ofLo a)]] w fun e w' => e = .returned (.agg (B.big (decide (a < 0)) a.natAbs)) ∧ Below w.heap.size w w' := by
  have hb : -1 ≤ B.ofHi a ∧ B.ofHi a ≤ 0 := by unfold B.ofHi; split <;> omega
  have lb : 0 ≤ B.ofLo a ∧ B.ofLo a < 18446744073709551616 := by rw [B.ofLo_eq]; omega
  have := lombardref02_big.calls (B.ofHi a) (B.ofLo a) (by omega) (by omega) lb.1 lb.2 w
  rw [B.of_less, B.of_abs h0 h1] at this
  exact this
theorem lombardref02_times.moved (X i k : Nat) : X * 2 ^ i % 2 ^ (k + i) = X % 2 ^ k * 2 ^ i := by
  rw [Nat.pow_add, Nat.mul_mod_mul_right]
theorem lombardref02_times.bit (X i k : Nat) : B.bit X k = B.bit (X * 2 ^ i) (k + i) := by
  unfold B.bit
  rw [Go.Proofs.Ytohbdjfabghagaa.BigMath.bitN_mul, if_pos (by omega), Nat.add_sub_cancel]
/-- a bit more of the factor -/
theorem lombardref02_times.next (Y i : Nat) : Y % 2 ^ (i + 1) = Y % 2 ^ i + Go.Proofs.Ytohbdjfabghagaa.BigMath.bitN Y i * 2 ^ i := by
  unfold Go.Proofs.Ytohbdjfabghagaa.BigMath.bitN
  have := Nat.mod_mul (x := Y) (a := 2 ^ i) (b := 2)
  rw [Nat.pow_succ, this, Nat.mul_comm (2 ^ i)]
set_option maxRecDepth 100000 in
set_option maxHeartbeats 8000000 in
theorem lombardref02_times.calls (a b : Int) (a0 : -9223372036854775808 ≤ a) (a1 : a ≤ 9223372036854775807) (b0 : -9223372036854775808 ≤ b) (b1 : b ≤ 9223372036854775807) (w : World) : Calls Try.prog 53 #[.int .i64 a, .int .i64 b] w fun e w' => e = .returned (.agg (B.big (decide (a < 0) != decide (b < 0)) (a.natAbs * b.natAbs))) ∧ Below w.heap.size w w' := by
  obtain ⟨ah, al, OA, BA⟩ : ∃ h l, (∀ W, Calls Try.prog 45 #[.int .i64 a] W fun e w' => e = .returned (.agg #[.int .i64 h, .int .u64 l]) ∧ Below W.heap.size W w') ∧ ∀ W, Calls Try.prog 52 #[.agg #[.int .i64 h, .int .u64 l]] W fun e w' => e = .returned (.agg (B.big (decide (a < 0)) a.natAbs)) ∧ Below W.heap.size W w' := ⟨_, _, fun W => B.ofCalls a W, fun W => B.bigOf a0 a1 W⟩
  obtain ⟨bh, bl, OB, BB⟩ : ∃ h l, (∀ W, Calls Try.prog 45 #[.int .i64 b] W fun e w' => e = .returned (.agg #[.int .i64 h, .int .u64 l]) ∧ Below W.heap.size W w') ∧ ∀ W, Calls Try.prog 52 #[.agg #[.int .i64 h, .int .u64 l]] W fun e w' => e = .returned (.agg (B.big (decide (b < 0)) b.natAbs)) ∧ Below W.heap.size W w' := ⟨_, _, fun W => B.ofCalls b W, fun W => B.bigOf b0 b1 W⟩
  have xl : a.natAbs ≤ 2 ^ 63 := by have e : (2 : Nat) ^ 63 = 9223372036854775808 := by decide
                                    rw [e]; omega
  have yl : b.natAbs ≤ 2 ^ 63 := by have e : (2 : Nat) ^ 63 = 9223372036854775808 := by decide
                                    rw [e]; omega
  clear a0 a1 b0 b1
  obtain ⟨X, hX⟩ : ∃ X, X = a.natAbs := ⟨_, rfl⟩
  obtain ⟨Y, hY⟩ : ∃ Y, Y = b.natAbs := ⟨_, rfl⟩
  obtain ⟨la, hla⟩ : ∃ l, l = decide (a < 0) := ⟨_, rfl⟩
  obtain ⟨lb, hlb⟩ : ∃ l, l = decide (b < 0) := ⟨_, rfl⟩
  rw [← hX] at BA xl
  rw [← hY] at BB yl
  rw [← hla] at BA
  rw [← hlb] at BB
  rw [← hX, ← hY, ← hla, ← hlb]
  clear hX hY hla hlb
  obtain ⟨L, hL⟩ : ∃ L, L = (la != lb) := ⟨_, rfl⟩
  rw [← hL]
  have HL := Aside0.mk hL
  have XL := Aside0.mk xl
  have YL := Aside0.mk yl
  clear hL xl yl
  go_enter Try.func53, Try.ntmps53
  go_upto_region 1 with (fail)
  have z4 := B.HasB.new0 w
  have W1 := below_alloc (Below.refl w.heap.size w) (.cells Try.zeroCells75 75)
  generalize w.alloc (.cells Try.zeroCells75 75) = w1 at *
  go_upto_region 2 with (first | (go_at_call 45; (with_reducible refine (OA _).mono ?_); rintro e w11 ⟨rfl, hb1⟩) | (go_at_call 52; (with_reducible refine (BA _).mono ?_); rintro e w12 ⟨rfl, hb2⟩) | (go_at_call 45; (with_reducible refine (OB _).mono ?_); rintro e w13 ⟨rfl, hb3⟩) | (go_at_call 52; (with_reducible refine (BB _).mono ?_); rintro e w14 ⟨rfl, hb4⟩; have y5 := (B.HasB.new0 w14).alloc (.cells Try.zeroCells75 75); have y6 := (B.HasB.new0 (w14.alloc (.cells Try.zeroCells75 75))).setR (k := w14.heap.size) (B.big la X) (by rw [World.size_alloc]; omega); rw [World.size_alloc] at y6) | ((with_reducible refine B.gateOp (.store 75 (.tmp 5) (.tmp 13)) rfl ?_); refine wpList_store_row rfl 75 (.tmp 5) (.tmp 13) rfl w14.heap.size (B.big la X) rfl rfl 75 _ y5 (B.infoB _ _) (by rw [B.big_size, B.big_size]) (B.plainB _ _) ?_) | ((with_reducible refine B.gateOp (.store 75 (.tmp 6) (.tmp 16)) rfl ?_); refine wpList_store_row rfl 75 (.tmp 6) (.tmp 16) rfl (w14.heap.size + 1) (B.big lb Y) rfl rfl 75 _ y6 (B.infoB _ _) (by rw [B.big_size, B.big_size]) (B.plainB _ _) ?_))
  have h0 := z4.lt
  have hz : w.heap.size < w14.heap.size := by have := hb1.size; have := hb2.size; have := hb3.size; have := hb4.size; omega
  have z5 := (((((((z4.below hb1).below hb2).below hb3).below hb4).alloc (.cells Try.zeroCells75 75)).alloc (.cells Try.zeroCells75 75)).setR (k := w14.heap.size) (B.big la X) (by omega)).setR (k := w14.heap.size + 1) (B.big lb Y) (by omega)
  have x5 := (B.HasB.row y5 la X).setR (k := w14.heap.size + 1) (B.big lb Y) (by omega)
  have x6 := B.HasB.row y6 lb Y
  have W2 := below_then W1 W1.size hb1
  have W3 := below_then W2 W2.size hb2
  have W4 := below_then W3 W3.size hb3
  have W5 := below_then W4 W4.size hb4
  have W6 := B.below_row (B.below_row (below_alloc (below_alloc W5 (.cells Try.zeroCells75 75)) (.cells Try.zeroCells75 75)) (k := w14.heap.size) (by omega) (B.big la X)) (k := w14.heap.size + 1) (by omega) (B.big lb Y)
  clear W1 W2 W3 W4 W5 y5 y6 hb1 hb2 hb3 hb4 z4 h0 OA OB BA BB
  generalize (((w14.alloc (.cells Try.zeroCells75 75)).alloc (.cells Try.zeroCells75 75)).setRow w14.heap.size (B.big la X)).setRow (w14.heap.size + 1) (B.big lb Y) = w5 at *
  generalize w14.heap.size = g at *
  have hg := x6.lt
  have c5 := x5.cell0
  have c6 := x6.cell0
  have y7 := B.HasB.new0 w5
  go_upto_region 3 with (first | ((with_reducible refine B.gateOp (.build 75 #[(0, .tmp 21)]) rfl ?_); refine B.wpBuildB rfl (.tmp 21) rfl _ L rfl (by rw [HL.out]; cases la <;> cases lb <;> rfl) ?_) | ((with_reducible refine B.gateOp (.store 75 (.tmp 7) (.tmp 22)) rfl ?_); refine wpList_store_row rfl 75 (.tmp 7) (.tmp 22) rfl w5.heap.size (B.big L 0) rfl rfl 75 _ y7 (B.infoB _ _) (by rw [B.big_size, B.big_size]) (B.plainB _ _) ?_))
  have z7 := (z5.alloc (.cells Try.zeroCells75 75)).setR (k := w5.heap.size) (B.big L 0) (by omega)
  have x7 := (x5.alloc (.cells Try.zeroCells75 75)).setR (k := w5.heap.size) (B.big L 0) (by omega)
  have q7 := (x6.alloc (.cells Try.zeroCells75 75)).setR (k := w5.heap.size) (B.big L 0) (by omega)
  have r7 := B.HasB.row y7 L 0
  have W7 := B.below_row (below_alloc W6 (.cells Try.zeroCells75 75)) (k := w5.heap.size) (by omega) (B.big L 0)
  clear z5 x5 x6 y7 W6 c5 c6
  generalize (w5.alloc (.cells Try.zeroCells75 75)).setRow w5.heap.size (B.big L 0) = w6 at *
  generalize w5.heap.size = h at *
  have Z7 := Aside0.mk z7
  have X7 := Aside0.mk x7
  have Q7 := Aside0.mk q7
  have R7 := Aside0.mk r7
  have V7 := Aside0.mk W7
  clear z7 x7 q7 r7 W7 HL
  go_wp2
  go_loopg [8] 64 (fun kq v8 w' => ∃ (i : Nat), v8 = .int .i64 i ∧ Aside0 (i + kq = 64) ∧ Aside0 (B.HasB w' w.heap.size false 0) ∧ Aside0 (B.HasB w' g la X) ∧ Aside0 (B.HasB w' (g + 1) lb Y) ∧ Aside0 (B.HasB w' h L (X * (Y % 2 ^ i))) ∧ Aside0 (Below w.heap.size w w'))
  case atStart => exact ⟨0, rfl, ⟨rfl⟩, Z7, X7, Q7, ⟨by rw [Nat.pow_zero, Nat.mod_one, Nat.mul_zero]; exact R7.out⟩, V7⟩
  case round =>
    clear Z7 X7 Q7 R7 V7
    obtain ⟨i, rfl, hik, hZ, hX, hY, hO, hW⟩ := hrel
    cases gk with
    | zero =>
      have q1 : decide ((i : Int) < 64) = false := decide_eq_false (by have := hik.out; omega)
      have hO' : B.HasB wr h L (X * Y) := by
        have := hO.out
        rw [show i = 64 by have := hik.out; omega, Nat.mod_eq_of_lt (Nat.lt_of_le_of_lt YL.out (Nat.pow_lt_pow_right (by omega) (by omega)))] at this
        exact this
      clear hik hX hY hO
      go_wp2_with (first | ((with_reducible refine B.gateOp (.load 75 (.tmp 7)) rfl ?_); refine wpList_load_row rfl 75 (.tmp 7) rfl h rfl 75 (B.big L (X * Y)) (0, 0) _ hO' Try.underlying75 rfl (B.infoB _ _) ?_) | ((with_reducible refine B.gateOp (.store 75 (.tmp 4) (.tmp 49)) rfl ?_); refine wpList_store_row rfl 75 (.tmp 4) (.tmp 49) rfl w.heap.size (B.big L (X * Y)) rfl rfl 75 _ hZ.out (B.infoB _ _) (by rw [B.big_size, B.big_size]) (B.plainB _ _) ?_))
      refine bodyPost_ret (results_cell_row (by rfl) _ _ w.heap.size 75 (B.big L (X * Y)) (0, 0) _ (by rfl) (hZ.out.row _ _) Try.underlying75 rfl (B.infoB _ _)) rfl ?_
      exact ⟨rfl, B.below_row hW.out (by omega) _⟩
    | succ k1 =>
      have i64 : i < 64 := by have := hik.out; omega
      have q1 : decide ((i : Int) < 64) = true := decide_eq_true (by omega)
      have xY := B.ixB (g + 1) i (by omega)
      have cY := hY.out.cell (i := i) (by omega)
      have nx := lombardref02_times.next Y i
      have b2 := Go.Proofs.Ytohbdjfabghagaa.BigMath.bitN_lt Y i
      have nw : wrap64 ((i : Int) + 1) = ((i + 1 : Nat) : Int) := by unfold wrap64; omega
      have NW := Aside0.mk nw
      clear nw
      rcases (show Go.Proofs.Ytohbdjfabghagaa.BigMath.bitN Y i = 0 ∨ Go.Proofs.Ytohbdjfabghagaa.BigMath.bitN Y i = 1 by omega) with c | c
      · have cv : B.bit Y i = 0 := by unfold B.bit; rw [c]; rfl
        rw [cv] at cY
        rw [c, Nat.zero_mul, Nat.add_zero] at nx
        have NX := Aside0.mk nx
        clear nx c b2 cv i64
        go_wp2
        go_roundg k1
        case measure => omega
        case rel => exact ⟨i + 1, by first | rfl | rw [← NW.out], ⟨by have := hik.out; omega⟩, hZ, hX, hY, ⟨by rw [NX.out]; exact hO.out⟩, hW⟩
      · have cv : B.bit Y i = 1 := by unfold B.bit; rw [c]; rfl
        rw [cv] at cY
        rw [c, Nat.one_mul] at nx
        have NX := Aside0.mk nx
        clear nx c b2 cv
        obtain ⟨S, hS⟩ : ∃ S, S = X * 2 ^ i := ⟨_, rfl⟩
        obtain ⟨T, hT⟩ : ∃ T, T = X * (Y % 2 ^ i) := ⟨_, rfl⟩
        rw [← hT] at hO
        have ml := hO.out.lt
        have pn : (T + S) % 2 ^ 260 = X * (Y % 2 ^ (i + 1)) := by
          have e : T + S = X * (Y % 2 ^ (i + 1)) := by rw [hT, hS, NX.out, Nat.mul_add]
          rw [e]
          refine Nat.mod_eq_of_lt (Nat.lt_of_le_of_lt (Nat.mul_le_mul XL.out (Nat.le_of_lt (Nat.mod_lt Y (show 0 < 2 ^ (i + 1) from Nat.pow_pos (by decide))))) ?_)
          rw [← Nat.pow_add]
          exact @Nat.pow_lt_pow_right 2 (63 + (i + 1)) 260 (by decide) (by omega)
        have PN := Aside0.mk pn
        have sl : S % 2 ^ (64 + i) = S := by
          refine Nat.mod_eq_of_lt ?_
          rw [hS, Nat.pow_add]
          exact Nat.mul_lt_mul_of_pos_right (Nat.lt_of_le_of_lt XL.out (Nat.pow_lt_pow_right (by omega) (by omega))) (Nat.pow_pos (by decide))
        have SL := Aside0.mk sl
        have s0 : S % 2 ^ (0 + i) = 0 := by rw [hS, lombardref02_times.moved, Nat.pow_zero, Nat.mod_one, Nat.zero_mul]
        have S0 := Aside0.mk s0
        have bt : ∀ k, B.bit X k = B.bit S (k + i) := fun k => by rw [hS]; exact lombardref02_times.bit X i k
        have BT := Aside0.mk bt
        have PL := fun W => lombardref02_plus.calls T S W
        rw [PN.out] at PL
        obtain ⟨U, hU⟩ : ∃ U, U = X * (Y % 2 ^ (i + 1)) := ⟨_, rfl⟩
        rw [← hU] at PL
        have HU := Aside0.mk hU
        clear pn sl s0 bt hU hT hS PN NX
        have Zr := hZ.out.alloc (.cells Try.zeroCells73 73)
        have Xr := hX.out.alloc (.cells Try.zeroCells73 73)
        have Yr := hY.out.alloc (.cells Try.zeroCells73 73)
        have Or := hO.out.alloc (.cells Try.zeroCells73 73)
        have Mr := B.Has.new0 wr
        have Wr := below_alloc hW.out (.cells Try.zeroCells73 73)
        clear hZ hX hY hO hW
        go_upto_region 8 with (fail)
        clear cY xY
        generalize wr.alloc (.cells Try.zeroCells73 73) = wm at *
        generalize wr.heap.size = m at *
        have KZ := Aside0.mk Zr
        have KX := Aside0.mk Xr
        have KY := Aside0.mk Yr
        have KO := Aside0.mk Or
        have KM := Aside0.mk Mr
        have KW := Aside0.mk Wr
        clear Zr Xr Yr Or Mr Wr
        go_wp2
        go_loopg [10] 64 (fun kq v10 w' => ∃ (k : Nat), v10 = .int .i64 k ∧ Aside0 (k + kq = 64) ∧ Aside0 (B.HasB w' w.heap.size false 0) ∧ Aside0 (B.HasB w' g la X) ∧ Aside0 (B.HasB w' (g + 1) lb Y) ∧ Aside0 (B.HasB w' h L T) ∧ Aside0 (B.Has w' m (S % 2 ^ (k + i))) ∧ Aside0 (Below w.heap.size w w'))
        case atStart => exact ⟨0, rfl, ⟨rfl⟩, KZ, KX, KY, KO, ⟨by rw [S0.out]; exact KM.out⟩, KW⟩
        case round =>
          clear KZ KX KY KO KM KW
          obtain ⟨k, rfl, hkq, hZ, hX, hY, hO, hM, hW⟩ := hrel
          cases gk with
          | zero =>
            have q2 : decide ((k : Int) < 64) = false := decide_eq_false (by have := hkq.out; omega)
            have hM' : B.Has wr m S := by
              have := hM.out
              rw [show k = 64 by have := hkq.out; omega, SL.out] at this
              exact this
            clear hkq hM
            go_upto_region 5 with (first | ((with_reducible refine B.gateOp (.load 73 (.tmp 44)) rfl ?_); refine B.wpLoadB rfl (.tmp 44) rfl h T L rfl hO.out ?_) | ((with_reducible refine B.gateOp (.load 73 (.tmp 9)) rfl ?_); refine wpList_load_row rfl 73 (.tmp 9) rfl m rfl 73 (B.cells S) (0, 0) _ hM' B.under rfl (B.infoN _) ?_) | (go_at_call 69; (with_reducible refine (PL _).mono ?_); rintro e w9 ⟨rfl, hb9⟩; have o9 := hO.out.below hb9) | ((with_reducible refine B.gateOp (.store 73 (.tmp 48) (.tmp 47)) rfl ?_); refine B.wpStoreB rfl (.tmp 48) (.tmp 47) rfl h T U L rfl rfl o9 ?_))
            have z9 := (hZ.out.below hb9).setR (k := h) (B.big L U) (by omega)
            have x9 := (hX.out.below hb9).setR (k := h) (B.big L U) (by omega)
            have y9 := (hY.out.below hb9).setR (k := h) (B.big L U) (by omega)
            have r9 := B.HasB.row o9 L U
            have W9 := B.below_row (below_then hW.out hW.out.size hb9) (k := h) (by omega) (B.big L U)
            generalize w9.setRow h (B.big L U) = wz at *
            have E1 := Aside0.mk z9
            have E2 := Aside0.mk x9
            have E3 := Aside0.mk y9
            have E4 := Aside0.mk r9
            have E5 := Aside0.mk W9
            clear z9 x9 y9 r9 W9 o9 hb9 hZ hX hY hO hM' hW
            go_wp2
            go_roundg k1
            case measure => omega
            case rel => exact ⟨i + 1, by first | rfl | rw [← NW.out], ⟨by have := hik.out; omega⟩, E1, E2, E3, ⟨by rw [← HU.out]; exact E4.out⟩, E5⟩
          | succ k2 =>
            have k64 : k < 64 := by have := hkq.out; omega
            have q2 : decide ((k : Int) < 64) = true := decide_eq_true (by omega)
            obtain ⟨j, hj⟩ : ∃ j, j = k + i := ⟨_, rfl⟩
            have jl : j < 260 := by omega
            have XK : wrap64 ((k : Int) + (i : Int)) = (j : Int) := by unfold wrap64; omega
            have xX := B.ixB g k (by omega)
            have cX := hX.out.cell (i := k) (by omega)
            have xM := B.ix m j jl
            have hM' : B.Has wr m (S % 2 ^ j) := by rw [hj]; exact hM.out
            have cM := hM'.cell jl
            have fM := blk_frozen hM' j
            have nk : wrap64 ((k : Int) + 1) = ((k + 1 : Nat) : Int) := by unfold wrap64; omega
            have NK := Aside0.mk nk
            have NM := Aside0.mk (hM'.put jl (show B.bit X k = B.bit S j by rw [hj]; exact BT.out k))
            have e : S % 2 ^ (j + 1) = S % 2 ^ (k + 1 + i) := by rw [hj, show k + i + 1 = k + 1 + i by omega]
            have NE := Aside0.mk e
            have HJ := Aside0.mk hj
            clear hM nk e hj k64 i64
            go_upto_region 10 with (fail)
            clear cM fM xM xX cX XK
            go_wp2
            go_roundg k2
            case measure => omega
            case rel => exact ⟨k + 1, by first | rfl | rw [← NK.out], ⟨by have := hkq.out; omega⟩, ⟨hZ.out.set _ _ (by show w.heap.size ≠ m; omega)⟩, ⟨hX.out.set _ _ (by show g ≠ m; omega)⟩, ⟨hY.out.set _ _ (by show g + 1 ≠ m; omega)⟩, ⟨hO.out.set _ _ (by show h ≠ m; omega)⟩, ⟨by rw [← NE.out]; exact NM.out⟩, ⟨hW.out.setCell (by show w.heap.size ≤ m; omega) _⟩⟩


end Go.Proofs.Ytohbdjfabghagaa.S
