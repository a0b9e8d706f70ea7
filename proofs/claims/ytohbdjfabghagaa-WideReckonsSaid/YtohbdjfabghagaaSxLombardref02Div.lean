/- Printed by a program of this session out of the translation: what each function called here computes, and that its call comes to just that. Conditions: none beyond those that each theorem names. -/
import Derived.Test.YtohbdjfabghagaaSx0
import Derived.Test.YtohbdjfabghagaaSxLombardref02Size
import Derived.Test.YtohbdjfabghagaaSxLombardref02Plus
import Derived.Test.YtohbdjfabghagaaSxLombardref02Quo
import Derived.Test.YtohbdjfabghagaaSxLombardref02Big
import Derived.Test.YtohbdjfabghagaaSxLombardref02Small
import Derived.Test.YtohbdjfabghagaaSxLombardref02Times
namespace Go.Proofs.Ytohbdjfabghagaa.S
open Go.RowKit Go.Proofs.YtohbdjfabghagaaW.PrintWords Go.Proofs.YtohbdjfabghagaaW.PrintLast Go.Proofs.YtohbdjfabghagaaW.PrintMore
attribute [local go_sem] max2_int min2_int max_two min_two max_three min_three max_four min_four   -- for this text's walks alone
attribute [local go_sem] Go.Proofs.Ytohbdjfabghagaa.XWalk.cell2
set_option linter.unusedVariables false
set_option linter.unusedSimpArgs false

/-! ### lombardref02_div: function 51 -/
-- IMPORT BigMath
theorem B.Has.lt {w : World} {g N : Nat} (h : B.Has w g N) : g < w.heap.size := (Array.getElem?_eq_some_iff.1 h).1
theorem B.built1 : (Try.prog.built 73 #[(0, Value.int IntKind.u8 1)].toList).getD #[] = B.cells 1 := by
  have e : (Try.prog.built 73 #[(0, Value.int IntKind.u8 1)].toList).getD #[] = (Array.replicate 260 (.int .u8 0)).setIfInBounds 0 (.int .u8 1) := by kernel_rfl
  have s := B.put 1 0 1 (by omega) (by unfold B.bit Go.Proofs.Ytohbdjfabghagaa.BigMath.bitN; decide)
  rw [show (1 : Nat) % 2 ^ 0 = 0 by decide, show (1 : Nat) % 2 ^ (0 + 1) = 1 by decide] at s
  rw [e, B.rep, s]
theorem B.some1 : (Try.prog.built 73 #[(0, Value.int IntKind.u8 1)].toList).isSome = true := by kernel_rfl
theorem B.wpBuild1 {ops : Array Oper} {rest : List Oper} {o : Oper} {a : Act} {w : World} {Q : Exit → Act → World → Prop} (hgd : o.guard = none) (ho : o.op = .build 73 #[(0, .const (.int .u8 1))])
    (h : wpList Try.prog ops Q rest (a.put o.dst (.agg (B.cells 1))) w) : wpList Try.prog ops Q (o :: rest) a w := by
  have m : (#[((0 : Nat), Operand.const (Value.int IntKind.u8 1))].map fun (i, x) => (i, a.eval x)) = #[(0, Value.int IntKind.u8 1)] := by simp [Act.eval]
  refine wpList_build hgd 73 #[(0, .const (.int .u8 1))] ho ?_ ?_
  · rw [m]
    exact B.some1
  · rw [m, B.built1]
    exact h
theorem B.built0 : (Try.prog.built 73 (#[] : Array (Nat × Value)).toList).getD #[] = B.cells 0 := by
  have e : (Try.prog.built 73 (#[] : Array (Nat × Value)).toList).getD #[] = Array.replicate 260 (.int .u8 0) := by kernel_rfl
  rw [e, B.rep]
theorem B.some0 : (Try.prog.built 73 (#[] : Array (Nat × Value)).toList).isSome = true := by kernel_rfl
theorem B.wpBuild0 {ops : Array Oper} {rest : List Oper} {o : Oper} {a : Act} {w : World} {Q : Exit → Act → World → Prop} (hw : Region.wanted o (yielded ops a.tmps) = true) (ho : o.op = .build 73 #[])
    (h : wpList Try.prog ops Q rest (a.put o.dst (.agg (B.cells 0))) w) : wpList Try.prog ops Q (o :: rest) a w := by
  refine wpList_step fun K hK => ?_
  rw [if_pos hw]
  have m : ((#[] : Array (Nat × Operand)).map fun (i, x) => (i, a.eval x)) = #[] := by simp
  refine wp_build 73 #[] ho ?_ ?_
  · rw [m]
    exact B.some0
  · rw [m, B.built0]
    exact hK _ _ h
theorem B.wpLoadW {ops : Array Oper} {rest : List Oper} {o : Oper} {a : Act} {w : World} {Q : Exit → Act → World → Prop} (hw : Region.wanted o (yielded ops a.tmps) = true) (x : Operand) (ho : o.op = .load 73 x) (g N : Nat) (hx : a.eval x = .pointer (some ⟨g, 0, none⟩)) (hg : B.HasC w g (B.cells N))
    (h : wpList Try.prog ops Q rest (a.put o.dst (.agg (B.cells N))) w) : wpList Try.prog ops Q (o :: rest) a w := by
  refine wpList_step fun K hK => ?_
  rw [if_pos hw]
  unfold Oper.wp
  rw [B.load x ho hx hg]
  exact hK _ _ h
theorem B.loadB {o : Oper} {ρ : Operand → Value} {W : World} {g N : Nat} {less : Bool} (x : Operand) (ho : o.op = .load 73 x) (hx : ρ x = .pointer (some ⟨g, 1, none⟩)) (h : B.HasB W g less N) : (execOp ρ o).run Try.prog W = .ok (.value (.agg (B.cells N))) W := by
  unfold execOp
  simp only [ho, hx, Instr.loadAt, Instr.sureAddr, Sem.run_bind, Sem.run_pure, Result.andThen_ok, B.loadVarB h]
theorem B.opCall {ops : Array Oper} {i : Nat} {o : Oper} {K : Act → World → Prop} {Q : Exit → Act → World → Prop} {a : Act} {w : World} (hi : ops[i]? = some o) (hg : o.guard = none) (u v : Value) (f : FuncId) (fn : Func) (x y : Operand) (ts : Array TypeId) (hf : Try.prog.funcs[f]? = some fn) (hname : (fn.name == "runtime.NumGoroutine") = false) (hb : fn.body.isSome = true)
    (ho : o.op = .call { callee := .value (.func f), args := #[x, y], argTypes := ts }) (hx : a.eval x = u) (hy : a.eval y = v) (h : Calls Try.prog f #[u, v] w fun e w' => ∃ z, e = .returned z ∧ K (a.put o.dst z) w') : wpOp Try.prog ops Q i K a w := by
  have hw : Region.wanted o (yielded ops a.tmps) = true := by simp [Region.wanted, hg]
  have t := goes_ (P := Try.prog) (ops := ops) (Q := Q) hf hname hb #[u, v] hw rfl ho (by simp [hx, hy]) h
  rw [if_pos hw] at t
  unfold wpOp
  simp only [hi]
  rw [if_pos hw]
  exact Or.inl t
theorem B.fold (cs : List Value) : ∀ (k : Nat) (z : Array Value), 1 + k + cs.length = z.size → (cs.zipIdx k).foldl (fun (a : Array Value) (x : Value × Nat) => a.setIfInBounds (1 + x.2) x.1) z = (z.toList.take (1 + k) ++ cs).toArray := by
  induction cs with
  | nil =>
    intro k z h
    simp at h
    rw [h, List.append_nil, List.take_of_length_le (by rw [Array.length_toList]; omega)]
    rfl
  | cons c cs ih =>
    intro k z h
    rw [List.zipIdx_cons, List.foldl_cons, ih (k + 1) _ (by rw [Array.size_setIfInBounds]; simp at h; omega)]
    congr 1
    rw [Array.toList_setIfInBounds, show 1 + (k + 1) = 1 + k + 1 by omega, List.take_add_one, List.take_set_of_le (by omega), List.getElem?_set_self (by rw [Array.length_toList]; simp at h; omega)]
    simp
theorem B.fill2 (p : Nat → Option (Nat × Nat)) (h0 : p 0 = some (0, 1)) (h1 : p 1 = some (1, 260)) (l : Bool) (N : Nat) : Instr.fill p (B.big false 0) [(0, Value.bool l), (1, Value.agg (B.cells N))] = some (B.big l N) := by
  have g := B.fold (B.cells N).toList 0 (B.big l 0) (by rw [Array.length_toList, B.size, B.big_size])
  have z : (B.cells N).zipIdx.foldl (fun (a : Array Value) (x : Value × Nat) => a.setIfInBounds (1 + x.2) x.1) (B.big l 0) = B.big l N := by
    rw [← Array.foldl_toList, Array.toList_zipIdx, g]
    unfold B.big
    simp
  have z0 : (#[Value.bool l] : Array Value).zipIdx.foldl (fun (a : Array Value) (x : Value × Nat) => a.setIfInBounds (0 + x.2) x.1) (B.big false 0) = B.big l 0 := by
    rw [← Array.foldl_toList, show (#[Value.bool l] : Array Value).zipIdx.toList = [(Value.bool l, 0)] from rfl, List.foldl_cons, List.foldl_nil]
    exact B.big_less false l 0
  have s1 : (#[Value.bool l] : Array Value).size = 1 := rfl
  have s2 := B.big_size l 0
  have s3 := B.big_size false 0
  have s4 := B.size N
  simp only [Instr.fill, Value.cells, h0, h1]
  simp only [z0, s1, s2, s3, s4]
  simp only [z]
  simp
theorem B.cellsB (l : Bool) (N : Nat) : Try.prog.built 75 #[(0, Value.bool l), (1, Value.agg (B.cells N))].toList = some (B.big l N) := by
  have e : Try.prog.built 75 #[(0, Value.bool l), (1, Value.agg (B.cells N))].toList = Instr.fill ((#[(0, 1), (1, 260)] : Array (Nat × Nat))[·]?) Try.zeroCells75 [(0, Value.bool l), (1, Value.agg (B.cells N))] := by kernel_rfl
  rw [e, B.zeroB]
  exact B.fill2 _ rfl rfl l N
theorem B.wpBuildLQ {ops : Array Oper} {rest : List Oper} {o : Oper} {a : Act} {w : World} {Q : Exit → Act → World → Prop} (hgd : o.guard = none) (x y : Operand) (ho : o.op = .build 75 #[(0, x), (1, y)]) (l : Bool) (N : Nat) (hx : a.eval x = .bool l) (hy : a.eval y = .agg (B.cells N))
    (h : wpList Try.prog ops Q rest (a.put o.dst (.agg (B.big l N))) w) : wpList Try.prog ops Q (o :: rest) a w := by
  have m : (#[((0 : Nat), x), (1, y)].map fun (i, x) => (i, a.eval x)) = #[(0, Value.bool l), (1, Value.agg (B.cells N))] := by simp [hx, hy]
  refine wpList_build hgd 75 #[(0, x), (1, y)] ho ?_ ?_
  · rw [m, B.cellsB]
    rfl
  · rw [m, B.cellsB]
    exact h
theorem lombardref02_div.twice (r D n m : Nat) (h : r < D) (hD : D ≤ 2 ^ n) (hm : n + 1 ≤ m) : r + r < 2 ^ m := by
  have c := Nat.pow_le_pow_right (show 2 > 0 by decide) hm
  rw [Nat.pow_succ] at c
  omega
theorem lombardref02_div.below (r D n m : Nat) (h : r < D) (hD : D ≤ 2 ^ n) (hm : n ≤ m) : r < 2 ^ m := by
  have c := Nat.pow_le_pow_right (show 2 > 0 by decide) hm
  omega
theorem lombardref02_div.more (q n m : Nat) (h : q < 2 ^ n) (hm : n < m) : q + 1 < 2 ^ m := by
  have c := Nat.pow_lt_pow_right (show 1 < 2 by decide) hm
  omega
def lombardref02_div.up (way : Int) (L : Bool) (N D : Nat) : Bool := if way = 0 then (L && decide (0 < N % D)) else (decide (D < N % D + N % D) || (decide (N % D + N % D = D) && decide (N / D % 2 = 1)))
def lombardref02_div.Q (way : Int) (L : Bool) (N D : Nat) : Nat := if lombardref02_div.up way L N D = true then N / D + 1 else N / D
def lombardref02_div.r (way : Int) (L : Bool) (N D : Nat) : Int := if lombardref02_small.ok L (lombardref02_div.Q way L N D) = true then lombardref02_small.v L (lombardref02_div.Q way L N D) else 0
def lombardref02_div.e (way : Int) (L : Bool) (N D : Nat) : Int := if lombardref02_small.ok L (lombardref02_div.Q way L N D) = true then 0 else 3
set_option maxRecDepth 100000 in
set_option maxHeartbeats 8000000 in
theorem lombardref02_div.calls0 (less : Bool) (N : Nat) (hN : N < 2 ^ 256) (b : Int) (b0 : -9223372036854775808 ≤ b) (b1 : b ≤ 9223372036854775807) (bz : b ≠ 0) (w : World) : Calls Try.prog 51 #[.agg (B.big less N), .int .i64 b, .int .i64 0] w fun e w' => e = .returned (.tuple #[.int .i64 (lombardref02_div.r 0 (less != decide (b < 0)) N b.natAbs), .int .i64 (lombardref02_div.e 0 (less != decide (b < 0)) N b.natAbs)]) ∧ Below w.heap.size w w' := by
  obtain ⟨bh, bl, OB, BB⟩ : ∃ h l, (∀ W, Calls Try.prog 45 #[.int .i64 b] W fun e w' => e = .returned (.agg #[.int .i64 h, .int .u64 l]) ∧ Below W.heap.size W w') ∧ ∀ W, Calls Try.prog 52 #[.agg #[.int .i64 h, .int .u64 l]] W fun e w' => e = .returned (.agg (B.big (decide (b < 0)) b.natAbs)) ∧ Below W.heap.size W w' := ⟨_, _, fun W => B.ofCalls b W, fun W => B.bigOf b0 b1 W⟩
  have dl : b.natAbs ≤ 2 ^ 63 := by have e : (2 : Nat) ^ 63 = 9223372036854775808 := by decide
                                    rw [e]; omega
  have d0 : 0 < b.natAbs := by omega
  have qz : (b == 0) = false := by simp [bz]
  clear b0 b1 bz
  obtain ⟨D, hD⟩ : ∃ D, D = b.natAbs := ⟨_, rfl⟩
  obtain ⟨lb, hlb⟩ : ∃ l, l = decide (b < 0) := ⟨_, rfl⟩
  rw [← hD] at dl d0 BB
  rw [← hlb] at BB
  rw [← hD, ← hlb]
  clear hD hlb
  obtain ⟨L, hL⟩ : ∃ L, L = (less != lb) := ⟨_, rfl⟩
  rw [← hL]
  have HL := Aside0.mk hL
  have d256 : D < 2 ^ 256 := Nat.lt_of_le_of_lt dl (Nat.pow_lt_pow_right (by omega) (by omega))
  have n260 : N < 2 ^ 260 := Nat.lt_of_lt_of_le hN (@Nat.pow_le_pow_right 2 (by decide) 256 260 (by decide))
  have QU := fun W => lombardref02_quo.calls N D n260 d0 d256 W
  obtain ⟨q, hq⟩ : ∃ q, q = N / D := ⟨_, rfl⟩
  obtain ⟨r, hr⟩ : ∃ r, r = N % D := ⟨_, rfl⟩
  have rl : r < D := by rw [hr]; exact Nat.mod_lt N d0
  have ql : q < 2 ^ 256 := by rw [hq]; exact Nat.lt_of_le_of_lt (Nat.div_le_self N D) hN
  rw [← hq, ← hr] at QU
  have HQ := Aside0.mk hq
  have HR := Aside0.mk hr
  have DL := Aside0.mk dl
  have RL := Aside0.mk rl
  have QL := Aside0.mk ql
  have NL := Aside0.mk hN
  have D0 := Aside0.mk d0
  clear hL hN dl rl ql d0 d256 n260 hq hr
  go_enter Try.func51, Try.ntmps51
  have y3 := B.HasB.new w less N
  go_upto_region 5 with (fail)
  have W1 := below_alloc (Below.refl w.heap.size w) (.cells (B.big less N) 75)
  generalize w.alloc (.cells (B.big less N) 75) = w1 at *
  go_upto_region 6 with (first | (go_at_call 45; (with_reducible refine (OB _).mono ?_); rintro e w11 ⟨rfl, hb1⟩) | (go_at_call 52; (with_reducible refine (BB _).mono ?_); rintro e w12 ⟨rfl, hb2⟩; have y8 := B.HasB.new0 w12) | ((with_reducible refine B.gateOp (.store 75 (.tmp 8) (.tmp 27)) rfl ?_); refine wpList_store_row rfl 75 (.tmp 8) (.tmp 27) rfl w12.heap.size (B.big lb D) rfl rfl 75 _ y8 (B.infoB _ _) (by rw [B.big_size, B.big_size]) (B.plainB _ _) ?_))
  have h3 := y3.lt
  have hz : w.heap.size < w12.heap.size := by have := hb1.size; have := hb2.size; omega
  have x3 := (((y3.below hb1).below hb2).alloc (.cells Try.zeroCells75 75)).setR (k := w12.heap.size) (B.big lb D) (by omega)
  have x8 := B.HasB.row y8 lb D
  have W2 := below_then W1 W1.size hb1
  have W3 := below_then W2 W2.size hb2
  have W4 := B.below_row (below_alloc W3 (.cells Try.zeroCells75 75)) (k := w12.heap.size) (by omega) (B.big lb D)
  clear W1 W2 W3 y3 y8 hb1 hb2 h3 OB BB
  generalize (w12.alloc (.cells Try.zeroCells75 75)).setRow w12.heap.size (B.big lb D) = w2 at *
  generalize w12.heap.size = d at *
  have hd := x8.lt
  go_upto_region 7 with (first | ((with_reducible refine B.gateOp (.load 73 (.tmp 29)) rfl ?_); refine B.wpLoadB rfl (.tmp 29) rfl w.heap.size N less rfl x3 ?_) | ((with_reducible refine B.gateOp (.load 73 (.tmp 31)) rfl ?_); refine B.wpLoadB rfl (.tmp 31) rfl d D lb rfl x8 ?_) | (go_at_call 67; (with_reducible refine (QU _).mono ?_); rintro e w13 ⟨rfl, hb3⟩; have y9 := (B.Has.new0 w13).alloc (.cells Try.zeroCells73 73); have y10 := (B.Has.new0 (w13.alloc (.cells Try.zeroCells73 73))).setR (k := w13.heap.size) (B.cells q) (by rw [World.size_alloc]; omega); rw [World.size_alloc] at y10) | ((with_reducible refine B.gateOp (.store 73 (.tmp 9) (.tmp 34)) rfl ?_); refine wpList_store_row rfl 73 (.tmp 9) (.tmp 34) rfl w13.heap.size (B.cells q) rfl rfl 73 _ y9 (B.infoN _) (by rw [B.size, B.size]) (B.plain _) ?_) | ((with_reducible refine B.gateOp (.store 73 (.tmp 10) (.tmp 35)) rfl ?_); refine wpList_store_row rfl 73 (.tmp 10) (.tmp 35) rfl (w13.heap.size + 1) (B.cells r) rfl rfl 73 _ y10 (B.infoN _) (by rw [B.size, B.size]) (B.plain _) ?_))
  have hg : d < w13.heap.size := by have := hb3.size; omega
  have a3 := ((((x3.below hb3).alloc (.cells Try.zeroCells73 73)).alloc (.cells Try.zeroCells73 73)).setR (k := w13.heap.size) (B.cells q) (by omega)).setR (k := w13.heap.size + 1) (B.cells r) (by omega)
  have a8 := ((((x8.below hb3).alloc (.cells Try.zeroCells73 73)).alloc (.cells Try.zeroCells73 73)).setR (k := w13.heap.size) (B.cells q) (by omega)).setR (k := w13.heap.size + 1) (B.cells r) (by omega)
  have a9 := (B.Has.row y9 q).setR (k := w13.heap.size + 1) (B.cells r) (by omega)
  have a10 := B.Has.row y10 r
  have W5 := below_then W4 W4.size hb3
  have W6 := B.below_row (B.below_row (below_alloc (below_alloc W5 (.cells Try.zeroCells73 73)) (.cells Try.zeroCells73 73)) (k := w13.heap.size) (by omega) (B.cells q)) (k := w13.heap.size + 1) (by omega) (B.cells r)
  clear W4 W5 x3 x8 y9 y10 hb3 hd QU
  generalize (((w13.alloc (.cells Try.zeroCells73 73)).alloc (.cells Try.zeroCells73 73)).setRow w13.heap.size (B.cells q)).setRow (w13.heap.size + 1) (B.cells r) = w3 at *
  generalize w13.heap.size = g at *
  have h10 := a10.lt
  have c3 := a3.cell0
  have c8 := a8.cell0
  go_upto_region 8 with (fail)
  have ll : (if less = lb then false else true) = L := by rw [HL.out]; cases less <;> cases lb <;> rfl
  have y12 := B.Has.new0 w3
  go_upto_region 10 with (first | ((with_reducible refine B.gateOp (.build 73 #[(0, .const (.int .u8 1))]) rfl ?_); refine B.wpBuild1 rfl rfl ?_) | ((with_reducible refine B.gateOp (.store 73 (.tmp 12) (.tmp 41)) rfl ?_); refine wpList_store_row rfl 73 (.tmp 12) (.tmp 41) rfl w3.heap.size (B.cells 1) rfl rfl 73 _ y12 (B.infoN _) (by rw [B.size, B.size]) (B.plain _) ?_))
  have e8 := (a8.alloc (.cells Try.zeroCells73 73)).setR (k := w3.heap.size) (B.cells 1) (by omega)
  have e9 := (a9.alloc (.cells Try.zeroCells73 73)).setR (k := w3.heap.size) (B.cells 1) (by omega)
  have e10 := (a10.alloc (.cells Try.zeroCells73 73)).setR (k := w3.heap.size) (B.cells 1) (by omega)
  have e12 := B.Has.row y12 1
  have W7 := B.below_row (below_alloc W6 (.cells Try.zeroCells73 73)) (k := w3.heap.size) (by omega) (B.cells 1)
  clear a3 a8 a9 a10 W6 y12 c3 c8
  generalize (w3.alloc (.cells Try.zeroCells73 73)).setRow w3.heap.size (B.cells 1) = w4 at *
  generalize w3.heap.size = o at *
  have ll : (!(less == lb)) = L := HL.out.symm
  rw [ll]
  clear ll h10
  have PL := fun W => lombardref02_plus.calls q 1 W
  rw [Nat.mod_eq_of_lt (lombardref02_div.more q 256 260 QL.out (by decide))] at PL
  have s1 : q + 1 < 2 ^ 260 := lombardref02_div.more q 256 260 QL.out (by decide)
  have s0 : q < 2 ^ 260 := Nat.lt_of_succ_lt s1
  have SM := fun M (h : M = q ∨ M = q + 1) W => lombardref02_small.calls L M (by rcases h with h | h <;> rw [h] <;> assumption) W
  clear s0 s1
  cases L with
  | false =>
    go_upto_region 14 with (fail)
    have uv : lombardref02_div.up 0 false N D = false := by unfold lombardref02_div.up; rw [if_pos rfl]; rfl
    have qv : lombardref02_div.Q 0 false N D = q := by unfold lombardref02_div.Q; rw [uv]; rw [if_neg (by simp), HQ.out]
    obtain ⟨M, hM⟩ : ∃ M, M = q := ⟨_, rfl⟩
    have SX := fun W => SM M (by rw [hM]; omega) W
    obtain ⟨v, hv⟩ : ∃ v, v = lombardref02_small.v false M := ⟨_, rfl⟩
    obtain ⟨k, hk⟩ : ∃ k, k = lombardref02_small.ok false M := ⟨_, rfl⟩
    have RES : Aside0 (lombardref02_div.r 0 false N D = (if k = true then v else 0) ∧ lombardref02_div.e 0 false N D = if k = true then 0 else 3) := ⟨by
      unfold lombardref02_div.r lombardref02_div.e
      rw [qv, ← hM, ← hv, ← hk]
      exact ⟨rfl, rfl⟩⟩
    rw [← hv, ← hk] at SX
    clear SM uv qv hv hk
    rw [← hM] at e9
    clear hM
    go_upto_region 16 with (fail)
    have m9 := e9
    have M7 := W7
    clear e9 e12 W7 PL
    go_upto_region 17 with (first | ((with_reducible refine B.gateOp (.load 73 (.tmp 9)) rfl ?_); refine wpList_load_row rfl 73 (.tmp 9) rfl g rfl 73 (B.cells M) (0, 0) _ m9 B.under rfl (B.infoN _) ?_) | ((with_reducible refine B.gateOp (.build 75 #[(0, .tmp 73), (1, .tmp 74)]) rfl ?_); refine B.wpBuildLQ rfl (.tmp 73) (.tmp 74) rfl false M rfl rfl ?_) | (go_at_call 70; (with_reducible refine (SX _).mono ?_); rintro e w9 ⟨rfl, hb9⟩))
    have B9 := below_then M7 M7.size hb9
    clear m9 M7 hb9 SX
    cases k with
    | true =>
      go_wp2
      go_ret2
      exact ⟨by rw [RES.out.1, RES.out.2]; rfl, B9⟩
    | false =>
      go_wp2
      go_ret2
      exact ⟨by rw [RES.out.1, RES.out.2]; rfl, B9⟩
  | true =>
    have SZ := fun W => lombardref02_size.calls r 0 (lombardref02_div.below r D 63 260 RL.out DL.out (by decide)) (@Nat.pow_pos 2 260 (by decide)) W
    by_cases c : 0 < r
    · have o1 : decide (lombardref02_size.ord r 0 > 0) = true := decide_eq_true (by unfold lombardref02_size.ord; rw [if_neg (by omega), if_pos c]; decide)
      obtain ⟨oz, hoz⟩ : ∃ z, z = lombardref02_size.ord r 0 := ⟨_, rfl⟩
      rw [← hoz] at o1
      have o2 : decide (0 < oz) = _ := o1
      have SZ2 := SZ
      rw [← hoz] at SZ2
      have CC := Aside0.mk c
      clear SZ hoz c
      go_upto_region 14 with (first | ((with_reducible refine B.gateOp (.load 73 (.tmp 10)) rfl ?_); refine B.wpLoadW (by first | rfl | (go_simp; done) | kernel_rfl) (.tmp 10) rfl (g + 1) r rfl e10 ?_) | ((with_reducible refine B.gateOp (.build 73 #[]) rfl ?_); refine B.wpBuild0 (by first | rfl | (go_simp; done) | kernel_rfl) rfl ?_) | (go_at_call 68; (with_reducible refine (SZ2 _).mono ?_); rintro e w6 ⟨rfl, hb6⟩))
      replace e9 := e9.below hb6
      replace e12 := e12.below hb6
      replace W7 := below_then W7 W7.size hb6
      have uv : lombardref02_div.up 0 true N D = true := by unfold lombardref02_div.up; rw [if_pos rfl, ← HR.out, decide_eq_true CC.out]; rfl
      have qv : lombardref02_div.Q 0 true N D = (q + 1) := by unfold lombardref02_div.Q; rw [uv]; rw [if_pos rfl, HQ.out]
      obtain ⟨M, hM⟩ : ∃ M, M = (q + 1) := ⟨_, rfl⟩
      have SX := fun W => SM M (by rw [hM]; omega) W
      obtain ⟨v, hv⟩ : ∃ v, v = lombardref02_small.v true M := ⟨_, rfl⟩
      obtain ⟨k, hk⟩ : ∃ k, k = lombardref02_small.ok true M := ⟨_, rfl⟩
      have RES : Aside0 (lombardref02_div.r 0 true N D = (if k = true then v else 0) ∧ lombardref02_div.e 0 true N D = if k = true then 0 else 3) := ⟨by
        unfold lombardref02_div.r lombardref02_div.e
        rw [qv, ← hM, ← hv, ← hk]
        exact ⟨rfl, rfl⟩⟩
      rw [← hv, ← hk] at SX
      clear SM uv qv hv hk
      rw [← hM] at PL
      clear hM
      go_upto_region 16 with (first | ((with_reducible refine B.gateOp (.load 73 (.tmp 9)) rfl ?_); refine wpList_load_row rfl 73 (.tmp 9) rfl g rfl 73 (B.cells q) (0, 0) _ e9 B.under rfl (B.infoN _) ?_) | ((with_reducible refine B.gateOp (.load 73 (.tmp 12)) rfl ?_); refine wpList_load_row rfl 73 (.tmp 12) rfl o rfl 73 (B.cells 1) (0, 0) _ e12 B.under rfl (B.infoN _) ?_) | (go_at_call 69; (with_reducible refine (PL _).mono ?_); rintro e w7 ⟨rfl, hb7⟩; have f9 := e9.below hb7) | ((with_reducible refine B.gateOp (.store 73 (.tmp 9) (.tmp 71)) rfl ?_); refine wpList_store_row rfl 73 (.tmp 9) (.tmp 71) rfl g (B.cells M) rfl rfl 73 _ f9 (B.infoN _) (by rw [B.size, B.size]) (B.plain _) ?_))
      have m9 := B.Has.row f9 M
      have M7 := B.below_row (below_then W7 W7.size hb7) (k := g) (by omega) (B.cells M)
      clear f9 hb7 e9 e12 W7 PL
      generalize w7.setRow g (B.cells M) = w8 at *
      go_upto_region 17 with (first | ((with_reducible refine B.gateOp (.load 73 (.tmp 9)) rfl ?_); refine wpList_load_row rfl 73 (.tmp 9) rfl g rfl 73 (B.cells M) (0, 0) _ m9 B.under rfl (B.infoN _) ?_) | ((with_reducible refine B.gateOp (.build 75 #[(0, .tmp 73), (1, .tmp 74)]) rfl ?_); refine B.wpBuildLQ rfl (.tmp 73) (.tmp 74) rfl true M rfl rfl ?_) | (go_at_call 70; (with_reducible refine (SX _).mono ?_); rintro e w9 ⟨rfl, hb9⟩))
      have B9 := below_then M7 M7.size hb9
      clear m9 M7 hb9 SX
      cases k with
      | true =>
        go_wp2
        go_ret2
        exact ⟨by rw [RES.out.1, RES.out.2]; rfl, B9⟩
      | false =>
        go_wp2
        go_ret2
        exact ⟨by rw [RES.out.1, RES.out.2]; rfl, B9⟩
    · have o1 : decide (lombardref02_size.ord r 0 > 0) = false := decide_eq_false (by unfold lombardref02_size.ord; rw [if_neg (by omega), if_neg c]; decide)
      obtain ⟨oz, hoz⟩ : ∃ z, z = lombardref02_size.ord r 0 := ⟨_, rfl⟩
      rw [← hoz] at o1
      have o2 : decide (0 < oz) = _ := o1
      have SZ2 := SZ
      rw [← hoz] at SZ2
      have CC := Aside0.mk c
      clear SZ hoz c
      go_upto_region 14 with (first | ((with_reducible refine B.gateOp (.load 73 (.tmp 10)) rfl ?_); refine B.wpLoadW (by first | rfl | (go_simp; done) | kernel_rfl) (.tmp 10) rfl (g + 1) r rfl e10 ?_) | ((with_reducible refine B.gateOp (.build 73 #[]) rfl ?_); refine B.wpBuild0 (by first | rfl | (go_simp; done) | kernel_rfl) rfl ?_) | (go_at_call 68; (with_reducible refine (SZ2 _).mono ?_); rintro e w6 ⟨rfl, hb6⟩))
      replace e9 := e9.below hb6
      replace e12 := e12.below hb6
      replace W7 := below_then W7 W7.size hb6
      have uv : lombardref02_div.up 0 true N D = false := by unfold lombardref02_div.up; rw [if_pos rfl, ← HR.out, decide_eq_false CC.out]; rfl
      have qv : lombardref02_div.Q 0 true N D = q := by unfold lombardref02_div.Q; rw [uv]; rw [if_neg (by simp), HQ.out]
      obtain ⟨M, hM⟩ : ∃ M, M = q := ⟨_, rfl⟩
      have SX := fun W => SM M (by rw [hM]; omega) W
      obtain ⟨v, hv⟩ : ∃ v, v = lombardref02_small.v true M := ⟨_, rfl⟩
      obtain ⟨k, hk⟩ : ∃ k, k = lombardref02_small.ok true M := ⟨_, rfl⟩
      have RES : Aside0 (lombardref02_div.r 0 true N D = (if k = true then v else 0) ∧ lombardref02_div.e 0 true N D = if k = true then 0 else 3) := ⟨by
        unfold lombardref02_div.r lombardref02_div.e
        rw [qv, ← hM, ← hv, ← hk]
        exact ⟨rfl, rfl⟩⟩
      rw [← hv, ← hk] at SX
      clear SM uv qv hv hk
      rw [← hM] at e9
      clear hM
      go_upto_region 16 with (fail)
      have m9 := e9
      have M7 := W7
      clear e9 e12 W7 PL
      go_upto_region 17 with (first | ((with_reducible refine B.gateOp (.load 73 (.tmp 9)) rfl ?_); refine wpList_load_row rfl 73 (.tmp 9) rfl g rfl 73 (B.cells M) (0, 0) _ m9 B.under rfl (B.infoN _) ?_) | ((with_reducible refine B.gateOp (.build 75 #[(0, .tmp 73), (1, .tmp 74)]) rfl ?_); refine B.wpBuildLQ rfl (.tmp 73) (.tmp 74) rfl true M rfl rfl ?_) | (go_at_call 70; (with_reducible refine (SX _).mono ?_); rintro e w9 ⟨rfl, hb9⟩))
      have B9 := below_then M7 M7.size hb9
      clear m9 M7 hb9 SX
      cases k with
      | true =>
        go_wp2
        go_ret2
        exact ⟨by rw [RES.out.1, RES.out.2]; rfl, B9⟩
      | false =>
        go_wp2
        go_ret2
        exact ⟨by rw [RES.out.1, RES.out.2]; rfl, B9⟩
set_option maxRecDepth 100000 in
set_option maxHeartbeats 8000000 in
theorem lombardref02_div.calls1 (less : Bool) (N : Nat) (hN : N < 2 ^ 256) (b : Int) (b0 : -9223372036854775808 ≤ b) (b1 : b ≤ 9223372036854775807) (bz : b ≠ 0) (w : World) : Calls Try.prog 51 #[.agg (B.big less N), .int .i64 b, .int .i64 1] w fun e w' => e = .returned (.tuple #[.int .i64 (lombardref02_div.r 1 (less != decide (b < 0)) N b.natAbs), .int .i64 (lombardref02_div.e 1 (less != decide (b < 0)) N b.natAbs)]) ∧ Below w.heap.size w w' := by
  obtain ⟨bh, bl, OB, BB⟩ : ∃ h l, (∀ W, Calls Try.prog 45 #[.int .i64 b] W fun e w' => e = .returned (.agg #[.int .i64 h, .int .u64 l]) ∧ Below W.heap.size W w') ∧ ∀ W, Calls Try.prog 52 #[.agg #[.int .i64 h, .int .u64 l]] W fun e w' => e = .returned (.agg (B.big (decide (b < 0)) b.natAbs)) ∧ Below W.heap.size W w' := ⟨_, _, fun W => B.ofCalls b W, fun W => B.bigOf b0 b1 W⟩
  have dl : b.natAbs ≤ 2 ^ 63 := by have e : (2 : Nat) ^ 63 = 9223372036854775808 := by decide
                                    rw [e]; omega
  have d0 : 0 < b.natAbs := by omega
  have qz : (b == 0) = false := by simp [bz]
  clear b0 b1 bz
  obtain ⟨D, hD⟩ : ∃ D, D = b.natAbs := ⟨_, rfl⟩
  obtain ⟨lb, hlb⟩ : ∃ l, l = decide (b < 0) := ⟨_, rfl⟩
  rw [← hD] at dl d0 BB
  rw [← hlb] at BB
  rw [← hD, ← hlb]
  clear hD hlb
  obtain ⟨L, hL⟩ : ∃ L, L = (less != lb) := ⟨_, rfl⟩
  rw [← hL]
  have HL := Aside0.mk hL
  have d256 : D < 2 ^ 256 := Nat.lt_of_le_of_lt dl (Nat.pow_lt_pow_right (by omega) (by omega))
  have n260 : N < 2 ^ 260 := Nat.lt_of_lt_of_le hN (@Nat.pow_le_pow_right 2 (by decide) 256 260 (by decide))
  have QU := fun W => lombardref02_quo.calls N D n260 d0 d256 W
  obtain ⟨q, hq⟩ : ∃ q, q = N / D := ⟨_, rfl⟩
  obtain ⟨r, hr⟩ : ∃ r, r = N % D := ⟨_, rfl⟩
  have rl : r < D := by rw [hr]; exact Nat.mod_lt N d0
  have ql : q < 2 ^ 256 := by rw [hq]; exact Nat.lt_of_le_of_lt (Nat.div_le_self N D) hN
  rw [← hq, ← hr] at QU
  have HQ := Aside0.mk hq
  have HR := Aside0.mk hr
  have DL := Aside0.mk dl
  have RL := Aside0.mk rl
  have QL := Aside0.mk ql
  have NL := Aside0.mk hN
  have D0 := Aside0.mk d0
  clear hL hN dl rl ql d0 d256 n260 hq hr
  go_enter Try.func51, Try.ntmps51
  have y3 := B.HasB.new w less N
  go_upto_region 5 with (fail)
  have W1 := below_alloc (Below.refl w.heap.size w) (.cells (B.big less N) 75)
  generalize w.alloc (.cells (B.big less N) 75) = w1 at *
  go_upto_region 6 with (first | (go_at_call 45; (with_reducible refine (OB _).mono ?_); rintro e w11 ⟨rfl, hb1⟩) | (go_at_call 52; (with_reducible refine (BB _).mono ?_); rintro e w12 ⟨rfl, hb2⟩; have y8 := B.HasB.new0 w12) | ((with_reducible refine B.gateOp (.store 75 (.tmp 8) (.tmp 27)) rfl ?_); refine wpList_store_row rfl 75 (.tmp 8) (.tmp 27) rfl w12.heap.size (B.big lb D) rfl rfl 75 _ y8 (B.infoB _ _) (by rw [B.big_size, B.big_size]) (B.plainB _ _) ?_))
  have h3 := y3.lt
  have hz : w.heap.size < w12.heap.size := by have := hb1.size; have := hb2.size; omega
  have x3 := (((y3.below hb1).below hb2).alloc (.cells Try.zeroCells75 75)).setR (k := w12.heap.size) (B.big lb D) (by omega)
  have x8 := B.HasB.row y8 lb D
  have W2 := below_then W1 W1.size hb1
  have W3 := below_then W2 W2.size hb2
  have W4 := B.below_row (below_alloc W3 (.cells Try.zeroCells75 75)) (k := w12.heap.size) (by omega) (B.big lb D)
  clear W1 W2 W3 y3 y8 hb1 hb2 h3 OB BB
  generalize (w12.alloc (.cells Try.zeroCells75 75)).setRow w12.heap.size (B.big lb D) = w2 at *
  generalize w12.heap.size = d at *
  have hd := x8.lt
  go_upto_region 7 with (first | ((with_reducible refine B.gateOp (.load 73 (.tmp 29)) rfl ?_); refine B.wpLoadB rfl (.tmp 29) rfl w.heap.size N less rfl x3 ?_) | ((with_reducible refine B.gateOp (.load 73 (.tmp 31)) rfl ?_); refine B.wpLoadB rfl (.tmp 31) rfl d D lb rfl x8 ?_) | (go_at_call 67; (with_reducible refine (QU _).mono ?_); rintro e w13 ⟨rfl, hb3⟩; have y9 := (B.Has.new0 w13).alloc (.cells Try.zeroCells73 73); have y10 := (B.Has.new0 (w13.alloc (.cells Try.zeroCells73 73))).setR (k := w13.heap.size) (B.cells q) (by rw [World.size_alloc]; omega); rw [World.size_alloc] at y10) | ((with_reducible refine B.gateOp (.store 73 (.tmp 9) (.tmp 34)) rfl ?_); refine wpList_store_row rfl 73 (.tmp 9) (.tmp 34) rfl w13.heap.size (B.cells q) rfl rfl 73 _ y9 (B.infoN _) (by rw [B.size, B.size]) (B.plain _) ?_) | ((with_reducible refine B.gateOp (.store 73 (.tmp 10) (.tmp 35)) rfl ?_); refine wpList_store_row rfl 73 (.tmp 10) (.tmp 35) rfl (w13.heap.size + 1) (B.cells r) rfl rfl 73 _ y10 (B.infoN _) (by rw [B.size, B.size]) (B.plain _) ?_))
  have hg : d < w13.heap.size := by have := hb3.size; omega
  have a3 := ((((x3.below hb3).alloc (.cells Try.zeroCells73 73)).alloc (.cells Try.zeroCells73 73)).setR (k := w13.heap.size) (B.cells q) (by omega)).setR (k := w13.heap.size + 1) (B.cells r) (by omega)
  have a8 := ((((x8.below hb3).alloc (.cells Try.zeroCells73 73)).alloc (.cells Try.zeroCells73 73)).setR (k := w13.heap.size) (B.cells q) (by omega)).setR (k := w13.heap.size + 1) (B.cells r) (by omega)
  have a9 := (B.Has.row y9 q).setR (k := w13.heap.size + 1) (B.cells r) (by omega)
  have a10 := B.Has.row y10 r
  have W5 := below_then W4 W4.size hb3
  have W6 := B.below_row (B.below_row (below_alloc (below_alloc W5 (.cells Try.zeroCells73 73)) (.cells Try.zeroCells73 73)) (k := w13.heap.size) (by omega) (B.cells q)) (k := w13.heap.size + 1) (by omega) (B.cells r)
  clear W4 W5 x3 x8 y9 y10 hb3 hd QU
  generalize (((w13.alloc (.cells Try.zeroCells73 73)).alloc (.cells Try.zeroCells73 73)).setRow w13.heap.size (B.cells q)).setRow (w13.heap.size + 1) (B.cells r) = w3 at *
  generalize w13.heap.size = g at *
  have h10 := a10.lt
  have c3 := a3.cell0
  have c8 := a8.cell0
  go_upto_region 8 with (fail)
  have ll : (if less = lb then false else true) = L := by rw [HL.out]; cases less <;> cases lb <;> rfl
  have y12 := B.Has.new0 w3
  go_upto_region 10 with (first | ((with_reducible refine B.gateOp (.build 73 #[(0, .const (.int .u8 1))]) rfl ?_); refine B.wpBuild1 rfl rfl ?_) | ((with_reducible refine B.gateOp (.store 73 (.tmp 12) (.tmp 41)) rfl ?_); refine wpList_store_row rfl 73 (.tmp 12) (.tmp 41) rfl w3.heap.size (B.cells 1) rfl rfl 73 _ y12 (B.infoN _) (by rw [B.size, B.size]) (B.plain _) ?_))
  have e8 := (a8.alloc (.cells Try.zeroCells73 73)).setR (k := w3.heap.size) (B.cells 1) (by omega)
  have e9 := (a9.alloc (.cells Try.zeroCells73 73)).setR (k := w3.heap.size) (B.cells 1) (by omega)
  have e10 := (a10.alloc (.cells Try.zeroCells73 73)).setR (k := w3.heap.size) (B.cells 1) (by omega)
  have e12 := B.Has.row y12 1
  have W7 := B.below_row (below_alloc W6 (.cells Try.zeroCells73 73)) (k := w3.heap.size) (by omega) (B.cells 1)
  clear a3 a8 a9 a10 W6 y12 c3 c8
  generalize (w3.alloc (.cells Try.zeroCells73 73)).setRow w3.heap.size (B.cells 1) = w4 at *
  generalize w3.heap.size = o at *
  have ll : (!(less == lb)) = L := HL.out.symm
  rw [ll]
  clear ll h10
  have PL := fun W => lombardref02_plus.calls q 1 W
  rw [Nat.mod_eq_of_lt (lombardref02_div.more q 256 260 QL.out (by decide))] at PL
  have s1 : q + 1 < 2 ^ 260 := lombardref02_div.more q 256 260 QL.out (by decide)
  have s0 : q < 2 ^ 260 := Nat.lt_of_succ_lt s1
  have SM := fun M (h : M = q ∨ M = q + 1) W => lombardref02_small.calls L M (by rcases h with h | h <;> rw [h] <;> assumption) W
  clear s0 s1
  have d260 : D < 2 ^ 260 := Nat.lt_of_le_of_lt DL.out (@Nat.pow_lt_pow_right 2 63 260 (by decide) (by decide))
  have r2 : r + r < 2 ^ 260 := lombardref02_div.twice r D 63 260 RL.out DL.out (by decide)
  have PR := fun W => lombardref02_plus.calls r r W
  rw [Nat.mod_eq_of_lt r2] at PR
  have SZ := fun W => lombardref02_size.calls (r + r) D r2 d260 W
  obtain ⟨R2, hR2⟩ : ∃ R2, R2 = r + r := ⟨_, rfl⟩
  rw [← hR2] at PR SZ
  have U0 : Aside0 (lombardref02_div.up 1 L N D = (decide (D < R2) || (decide (R2 = D) && decide (q % 2 = 1)))) := ⟨by unfold lombardref02_div.up; rw [if_neg (by decide), ← HR.out, ← HQ.out, hR2]⟩
  clear r2 hR2 d260
  rcases Nat.lt_trichotomy R2 D with lt | eq | gt
  · have ord : lombardref02_size.ord R2 D = -1 := by unfold lombardref02_size.ord; rw [if_pos lt]
    have UV : Aside0 (lombardref02_div.up 1 L N D = false) := ⟨by rw [U0.out, decide_eq_false (show ¬ D < R2 by omega), decide_eq_false (show ¬ R2 = D by omega)]; rfl⟩
    clear lt U0
    rw [ord] at SZ
    clear ord
    go_upto_region 12 with (fail)
    refine wp_region_held (S := fun W => B.HasC W (g + 1) (B.cells r) ∧ B.HasB W d lb D) (by kernel_rfl) ?_
    refine wpAnyH_take (i := 0) (v := .agg (B.cells r)) rfl (by kernel_rfl) (by kernel_rfl) (by kernel_rfl) (fun _ _ _ h => h) (Or.inl ⟨by rfl, fun W hS => B.load (.tmp 10) rfl rfl hS.1⟩) ⟨e10, e8⟩ ?_
    refine wpAnyH_take (i := 1) (v := .agg (B.cells r)) rfl (by kernel_rfl) (by kernel_rfl) (by kernel_rfl) (fun _ _ _ h => h) (Or.inl ⟨by rfl, fun W hS => B.load (.tmp 10) rfl rfl hS.1⟩) ⟨e10, e8⟩ ?_
    refine wpAnyH_take (i := 3) (v := .pointer (some ⟨d, 1, none⟩)) rfl (by kernel_rfl) (by kernel_rfl) (by kernel_rfl) (fun _ _ _ h => h) (Or.inl ⟨by rfl, fun W hS => by go_simp⟩) ⟨e10, e8⟩ ?_
    refine wpAnyH_take (i := 4) (v := .agg (B.cells D)) rfl (by kernel_rfl) (by kernel_rfl) (by kernel_rfl) (fun _ _ _ h => h) (Or.inl ⟨by rfl, fun W hS => B.loadB (.tmp 54) rfl rfl hS.2⟩) ⟨e10, e8⟩ ?_
    refine wpAnyH_all (rs := [2]) (by kernel_rfl) (by simp) fun i hi => ?_
    obtain rfl : i = 2 := by simpa using hi
    refine B.opCall (i := 2) rfl rfl (.agg (B.cells r)) (.agg (B.cells r)) 69 _ (.tmp 51) (.tmp 52) _ Try.func69 rfl rfl rfl rfl rfl ?_
    refine (PR _).mono ?_
    rintro e w6 ⟨rfl, hb6⟩
    refine ⟨_, rfl, ?_⟩
    have t8 : B.HasB w6 d lb D := B.HasB.below (w := { w4 with drawn := w4.drawn + 1 }) e8 hb6
    have t9 : B.Has w6 g q := B.Has.below (w := { w4 with drawn := w4.drawn + 1 }) e9 hb6
    have t10 : B.Has w6 (g + 1) r := B.Has.below (w := { w4 with drawn := w4.drawn + 1 }) e10 hb6
    have t12 : B.Has w6 o 1 := B.Has.below (w := { w4 with drawn := w4.drawn + 1 }) e12 hb6
    have V7 := below_then W7.drew W7.drew.size hb6
    refine ⟨⟨t10, t8⟩, ?_⟩
    clear e8 e9 e10 e12 W7 hb6
    refine wpAnyH_all (rs := [5]) (by kernel_rfl) (by simp) fun i hi => ?_
    obtain rfl : i = 5 := by simpa using hi
    refine B.opCall (i := 5) rfl rfl (.agg (B.cells R2)) (.agg (B.cells D)) 68 _ (.tmp 53) (.tmp 55) _ Try.func68 rfl rfl rfl rfl rfl ?_
    refine (SZ _).mono ?_
    rintro e w7 ⟨rfl, hb7⟩
    refine ⟨_, rfl, ?_⟩
    have e9 := t9.below hb7
    have e12 := t12.below hb7
    have W7 := below_then V7 V7.size hb7
    refine ⟨⟨t10.below hb7, t8.below hb7⟩, ?_⟩
    refine wpAnyH_take (i := 6) (v := .int .i64 (-1)) rfl (by kernel_rfl) (by kernel_rfl) (by kernel_rfl) (fun _ _ _ h => h) (Or.inl ⟨by rfl, fun W hS => by go_simp⟩) ⟨t10.below hb7, t8.below hb7⟩ ?_
    refine wpAnyH_done (by kernel_rfl) ?_ _
    clear t8 t9 t10 t12 V7 hb7 PR SZ
    go_upto_region 14 with (fail)
    have uv : lombardref02_div.up 1 L N D = false := by exact UV.out
    have qv : lombardref02_div.Q 1 L N D = q := by unfold lombardref02_div.Q; rw [uv]; rw [if_neg (by simp), HQ.out]
    obtain ⟨M, hM⟩ : ∃ M, M = q := ⟨_, rfl⟩
    have SX := fun W => SM M (by rw [hM]; omega) W
    obtain ⟨v, hv⟩ : ∃ v, v = lombardref02_small.v L M := ⟨_, rfl⟩
    obtain ⟨k, hk⟩ : ∃ k, k = lombardref02_small.ok L M := ⟨_, rfl⟩
    have RES : Aside0 (lombardref02_div.r 1 L N D = (if k = true then v else 0) ∧ lombardref02_div.e 1 L N D = if k = true then 0 else 3) := ⟨by
      unfold lombardref02_div.r lombardref02_div.e
      rw [qv, ← hM, ← hv, ← hk]
      exact ⟨rfl, rfl⟩⟩
    rw [← hv, ← hk] at SX
    clear SM uv qv hv hk
    rw [← hM] at e9
    clear hM
    go_upto_region 16 with (fail)
    have m9 := e9
    have M7 := W7
    clear e9 e12 W7 PL
    go_upto_region 17 with (first | ((with_reducible refine B.gateOp (.load 73 (.tmp 9)) rfl ?_); refine wpList_load_row rfl 73 (.tmp 9) rfl g rfl 73 (B.cells M) (0, 0) _ m9 B.under rfl (B.infoN _) ?_) | ((with_reducible refine B.gateOp (.build 75 #[(0, .tmp 73), (1, .tmp 74)]) rfl ?_); refine B.wpBuildLQ rfl (.tmp 73) (.tmp 74) rfl L M rfl rfl ?_) | (go_at_call 70; (with_reducible refine (SX _).mono ?_); rintro e w9 ⟨rfl, hb9⟩))
    have B9 := below_then M7 M7.size hb9
    clear m9 M7 hb9 SX
    cases k with
    | true =>
      go_wp2
      go_ret2
      exact ⟨by rw [RES.out.1, RES.out.2]; rfl, B9⟩
    | false =>
      go_wp2
      go_ret2
      exact ⟨by rw [RES.out.1, RES.out.2]; rfl, B9⟩
  · have ord : lombardref02_size.ord R2 D = 0 := by unfold lombardref02_size.ord; rw [if_neg (by omega), if_neg (by omega)]
    by_cases odd : q % 2 = 1
    · have UV : Aside0 (lombardref02_div.up 1 L N D = true) := ⟨by rw [U0.out, decide_eq_true eq, decide_eq_true odd]; simp⟩
      have bq : B.bit q 0 = 1 := by unfold B.bit Go.Proofs.Ytohbdjfabghagaa.BigMath.bitN; rw [Nat.pow_zero, Nat.div_one, odd]; rfl
      clear eq U0 odd
      rw [ord] at SZ
      clear ord
      go_upto_region 12 with (fail)
      refine wp_region_held (S := fun W => B.HasC W (g + 1) (B.cells r) ∧ B.HasB W d lb D) (by kernel_rfl) ?_
      refine wpAnyH_take (i := 0) (v := .agg (B.cells r)) rfl (by kernel_rfl) (by kernel_rfl) (by kernel_rfl) (fun _ _ _ h => h) (Or.inl ⟨by rfl, fun W hS => B.load (.tmp 10) rfl rfl hS.1⟩) ⟨e10, e8⟩ ?_
      refine wpAnyH_take (i := 1) (v := .agg (B.cells r)) rfl (by kernel_rfl) (by kernel_rfl) (by kernel_rfl) (fun _ _ _ h => h) (Or.inl ⟨by rfl, fun W hS => B.load (.tmp 10) rfl rfl hS.1⟩) ⟨e10, e8⟩ ?_
      refine wpAnyH_take (i := 3) (v := .pointer (some ⟨d, 1, none⟩)) rfl (by kernel_rfl) (by kernel_rfl) (by kernel_rfl) (fun _ _ _ h => h) (Or.inl ⟨by rfl, fun W hS => by go_simp⟩) ⟨e10, e8⟩ ?_
      refine wpAnyH_take (i := 4) (v := .agg (B.cells D)) rfl (by kernel_rfl) (by kernel_rfl) (by kernel_rfl) (fun _ _ _ h => h) (Or.inl ⟨by rfl, fun W hS => B.loadB (.tmp 54) rfl rfl hS.2⟩) ⟨e10, e8⟩ ?_
      refine wpAnyH_all (rs := [2]) (by kernel_rfl) (by simp) fun i hi => ?_
      obtain rfl : i = 2 := by simpa using hi
      refine B.opCall (i := 2) rfl rfl (.agg (B.cells r)) (.agg (B.cells r)) 69 _ (.tmp 51) (.tmp 52) _ Try.func69 rfl rfl rfl rfl rfl ?_
      refine (PR _).mono ?_
      rintro e w6 ⟨rfl, hb6⟩
      refine ⟨_, rfl, ?_⟩
      have t8 : B.HasB w6 d lb D := B.HasB.below (w := { w4 with drawn := w4.drawn + 1 }) e8 hb6
      have t9 : B.Has w6 g q := B.Has.below (w := { w4 with drawn := w4.drawn + 1 }) e9 hb6
      have t10 : B.Has w6 (g + 1) r := B.Has.below (w := { w4 with drawn := w4.drawn + 1 }) e10 hb6
      have t12 : B.Has w6 o 1 := B.Has.below (w := { w4 with drawn := w4.drawn + 1 }) e12 hb6
      have V7 := below_then W7.drew W7.drew.size hb6
      refine ⟨⟨t10, t8⟩, ?_⟩
      clear e8 e9 e10 e12 W7 hb6
      refine wpAnyH_all (rs := [5]) (by kernel_rfl) (by simp) fun i hi => ?_
      obtain rfl : i = 5 := by simpa using hi
      refine B.opCall (i := 5) rfl rfl (.agg (B.cells R2)) (.agg (B.cells D)) 68 _ (.tmp 53) (.tmp 55) _ Try.func68 rfl rfl rfl rfl rfl ?_
      refine (SZ _).mono ?_
      rintro e w7 ⟨rfl, hb7⟩
      refine ⟨_, rfl, ?_⟩
      have e9 := t9.below hb7
      have e12 := t12.below hb7
      have W7 := below_then V7 V7.size hb7
      refine ⟨⟨t10.below hb7, t8.below hb7⟩, ?_⟩
      refine wpAnyH_take (i := 6) (v := .int .i64 (0)) rfl (by kernel_rfl) (by kernel_rfl) (by kernel_rfl) (fun _ _ _ h => h) (Or.inl ⟨by rfl, fun W hS => by go_simp⟩) ⟨t10.below hb7, t8.below hb7⟩ ?_
      refine wpAnyH_done (by kernel_rfl) ?_ _
      clear t8 t9 t10 t12 V7 hb7 PR SZ
      have x9 := B.ix g 0 (by omega)
      have c9 := e9.cell (i := 0) (by omega)
      rw [bq] at c9
      clear bq
      go_upto_region 14 with (fail)
      clear x9 c9
      have uv : lombardref02_div.up 1 L N D = true := by exact UV.out
      have qv : lombardref02_div.Q 1 L N D = (q + 1) := by unfold lombardref02_div.Q; rw [uv]; rw [if_pos rfl, HQ.out]
      obtain ⟨M, hM⟩ : ∃ M, M = (q + 1) := ⟨_, rfl⟩
      have SX := fun W => SM M (by rw [hM]; omega) W
      obtain ⟨v, hv⟩ : ∃ v, v = lombardref02_small.v L M := ⟨_, rfl⟩
      obtain ⟨k, hk⟩ : ∃ k, k = lombardref02_small.ok L M := ⟨_, rfl⟩
      have RES : Aside0 (lombardref02_div.r 1 L N D = (if k = true then v else 0) ∧ lombardref02_div.e 1 L N D = if k = true then 0 else 3) := ⟨by
        unfold lombardref02_div.r lombardref02_div.e
        rw [qv, ← hM, ← hv, ← hk]
        exact ⟨rfl, rfl⟩⟩
      rw [← hv, ← hk] at SX
      clear SM uv qv hv hk
      rw [← hM] at PL
      clear hM
      go_upto_region 16 with (first | ((with_reducible refine B.gateOp (.load 73 (.tmp 9)) rfl ?_); refine wpList_load_row rfl 73 (.tmp 9) rfl g rfl 73 (B.cells q) (0, 0) _ e9 B.under rfl (B.infoN _) ?_) | ((with_reducible refine B.gateOp (.load 73 (.tmp 12)) rfl ?_); refine wpList_load_row rfl 73 (.tmp 12) rfl o rfl 73 (B.cells 1) (0, 0) _ e12 B.under rfl (B.infoN _) ?_) | (go_at_call 69; (with_reducible refine (PL _).mono ?_); rintro e w7 ⟨rfl, hb7⟩; have f9 := e9.below hb7) | ((with_reducible refine B.gateOp (.store 73 (.tmp 9) (.tmp 71)) rfl ?_); refine wpList_store_row rfl 73 (.tmp 9) (.tmp 71) rfl g (B.cells M) rfl rfl 73 _ f9 (B.infoN _) (by rw [B.size, B.size]) (B.plain _) ?_))
      have m9 := B.Has.row f9 M
      have M7 := B.below_row (below_then W7 W7.size hb7) (k := g) (by omega) (B.cells M)
      clear f9 hb7 e9 e12 W7 PL
      generalize w7.setRow g (B.cells M) = w8 at *
      go_upto_region 17 with (first | ((with_reducible refine B.gateOp (.load 73 (.tmp 9)) rfl ?_); refine wpList_load_row rfl 73 (.tmp 9) rfl g rfl 73 (B.cells M) (0, 0) _ m9 B.under rfl (B.infoN _) ?_) | ((with_reducible refine B.gateOp (.build 75 #[(0, .tmp 73), (1, .tmp 74)]) rfl ?_); refine B.wpBuildLQ rfl (.tmp 73) (.tmp 74) rfl L M rfl rfl ?_) | (go_at_call 70; (with_reducible refine (SX _).mono ?_); rintro e w9 ⟨rfl, hb9⟩))
      have B9 := below_then M7 M7.size hb9
      clear m9 M7 hb9 SX
      cases k with
      | true =>
        go_wp2
        go_ret2
        exact ⟨by rw [RES.out.1, RES.out.2]; rfl, B9⟩
      | false =>
        go_wp2
        go_ret2
        exact ⟨by rw [RES.out.1, RES.out.2]; rfl, B9⟩
    · have UV : Aside0 (lombardref02_div.up 1 L N D = false) := ⟨by rw [U0.out, decide_eq_false odd, decide_eq_false (show ¬ D < R2 by omega)]; simp⟩
      have bq : B.bit q 0 = 0 := by unfold B.bit Go.Proofs.Ytohbdjfabghagaa.BigMath.bitN; rw [Nat.pow_zero, Nat.div_one, show q % 2 = 0 by omega]; rfl
      clear eq U0 odd
      rw [ord] at SZ
      clear ord
      go_upto_region 12 with (fail)
      refine wp_region_held (S := fun W => B.HasC W (g + 1) (B.cells r) ∧ B.HasB W d lb D) (by kernel_rfl) ?_
      refine wpAnyH_take (i := 0) (v := .agg (B.cells r)) rfl (by kernel_rfl) (by kernel_rfl) (by kernel_rfl) (fun _ _ _ h => h) (Or.inl ⟨by rfl, fun W hS => B.load (.tmp 10) rfl rfl hS.1⟩) ⟨e10, e8⟩ ?_
      refine wpAnyH_take (i := 1) (v := .agg (B.cells r)) rfl (by kernel_rfl) (by kernel_rfl) (by kernel_rfl) (fun _ _ _ h => h) (Or.inl ⟨by rfl, fun W hS => B.load (.tmp 10) rfl rfl hS.1⟩) ⟨e10, e8⟩ ?_
      refine wpAnyH_take (i := 3) (v := .pointer (some ⟨d, 1, none⟩)) rfl (by kernel_rfl) (by kernel_rfl) (by kernel_rfl) (fun _ _ _ h => h) (Or.inl ⟨by rfl, fun W hS => by go_simp⟩) ⟨e10, e8⟩ ?_
      refine wpAnyH_take (i := 4) (v := .agg (B.cells D)) rfl (by kernel_rfl) (by kernel_rfl) (by kernel_rfl) (fun _ _ _ h => h) (Or.inl ⟨by rfl, fun W hS => B.loadB (.tmp 54) rfl rfl hS.2⟩) ⟨e10, e8⟩ ?_
      refine wpAnyH_all (rs := [2]) (by kernel_rfl) (by simp) fun i hi => ?_
      obtain rfl : i = 2 := by simpa using hi
      refine B.opCall (i := 2) rfl rfl (.agg (B.cells r)) (.agg (B.cells r)) 69 _ (.tmp 51) (.tmp 52) _ Try.func69 rfl rfl rfl rfl rfl ?_
      refine (PR _).mono ?_
      rintro e w6 ⟨rfl, hb6⟩
      refine ⟨_, rfl, ?_⟩
      have t8 : B.HasB w6 d lb D := B.HasB.below (w := { w4 with drawn := w4.drawn + 1 }) e8 hb6
      have t9 : B.Has w6 g q := B.Has.below (w := { w4 with drawn := w4.drawn + 1 }) e9 hb6
      have t10 : B.Has w6 (g + 1) r := B.Has.below (w := { w4 with drawn := w4.drawn + 1 }) e10 hb6
      have t12 : B.Has w6 o 1 := B.Has.below (w := { w4 with drawn := w4.drawn + 1 }) e12 hb6
      have V7 := below_then W7.drew W7.drew.size hb6
      refine ⟨⟨t10, t8⟩, ?_⟩
      clear e8 e9 e10 e12 W7 hb6
      refine wpAnyH_all (rs := [5]) (by kernel_rfl) (by simp) fun i hi => ?_
      obtain rfl : i = 5 := by simpa using hi
      refine B.opCall (i := 5) rfl rfl (.agg (B.cells R2)) (.agg (B.cells D)) 68 _ (.tmp 53) (.tmp 55) _ Try.func68 rfl rfl rfl rfl rfl ?_
      refine (SZ _).mono ?_
      rintro e w7 ⟨rfl, hb7⟩
      refine ⟨_, rfl, ?_⟩
      have e9 := t9.below hb7
      have e12 := t12.below hb7
      have W7 := below_then V7 V7.size hb7
      refine ⟨⟨t10.below hb7, t8.below hb7⟩, ?_⟩
      refine wpAnyH_take (i := 6) (v := .int .i64 (0)) rfl (by kernel_rfl) (by kernel_rfl) (by kernel_rfl) (fun _ _ _ h => h) (Or.inl ⟨by rfl, fun W hS => by go_simp⟩) ⟨t10.below hb7, t8.below hb7⟩ ?_
      refine wpAnyH_done (by kernel_rfl) ?_ _
      clear t8 t9 t10 t12 V7 hb7 PR SZ
      have x9 := B.ix g 0 (by omega)
      have c9 := e9.cell (i := 0) (by omega)
      rw [bq] at c9
      clear bq
      go_upto_region 14 with (fail)
      clear x9 c9
      have uv : lombardref02_div.up 1 L N D = false := by exact UV.out
      have qv : lombardref02_div.Q 1 L N D = q := by unfold lombardref02_div.Q; rw [uv]; rw [if_neg (by simp), HQ.out]
      obtain ⟨M, hM⟩ : ∃ M, M = q := ⟨_, rfl⟩
      have SX := fun W => SM M (by rw [hM]; omega) W
      obtain ⟨v, hv⟩ : ∃ v, v = lombardref02_small.v L M := ⟨_, rfl⟩
      obtain ⟨k, hk⟩ : ∃ k, k = lombardref02_small.ok L M := ⟨_, rfl⟩
      have RES : Aside0 (lombardref02_div.r 1 L N D = (if k = true then v else 0) ∧ lombardref02_div.e 1 L N D = if k = true then 0 else 3) := ⟨by
        unfold lombardref02_div.r lombardref02_div.e
        rw [qv, ← hM, ← hv, ← hk]
        exact ⟨rfl, rfl⟩⟩
      rw [← hv, ← hk] at SX
      clear SM uv qv hv hk
      rw [← hM] at e9
      clear hM
      go_upto_region 16 with (fail)
      have m9 := e9
      have M7 := W7
      clear e9 e12 W7 PL
      go_upto_region 17 with (first | ((with_reducible refine B.gateOp (.load 73 (.tmp 9)) rfl ?_); refine wpList_load_row rfl 73 (.tmp 9) rfl g rfl 73 (B.cells M) (0, 0) _ m9 B.under rfl (B.infoN _) ?_) | ((with_reducible refine B.gateOp (.build 75 #[(0, .tmp 73), (1, .tmp 74)]) rfl ?_); refine B.wpBuildLQ rfl (.tmp 73) (.tmp 74) rfl L M rfl rfl ?_) | (go_at_call 70; (with_reducible refine (SX _).mono ?_); rintro e w9 ⟨rfl, hb9⟩))
      have B9 := below_then M7 M7.size hb9
      clear m9 M7 hb9 SX
      cases k with
      | true =>
        go_wp2
        go_ret2
        exact ⟨by rw [RES.out.1, RES.out.2]; rfl, B9⟩
      | false =>
        go_wp2
        go_ret2
        exact ⟨by rw [RES.out.1, RES.out.2]; rfl, B9⟩
  · have ord : lombardref02_size.ord R2 D = 1 := by unfold lombardref02_size.ord; rw [if_neg (by omega), if_pos gt]
    have UV : Aside0 (lombardref02_div.up 1 L N D = true) := ⟨by rw [U0.out, decide_eq_true gt]; rfl⟩
    clear gt U0
    rw [ord] at SZ
    clear ord
    go_upto_region 12 with (fail)
    refine wp_region_held (S := fun W => B.HasC W (g + 1) (B.cells r) ∧ B.HasB W d lb D) (by kernel_rfl) ?_
    refine wpAnyH_take (i := 0) (v := .agg (B.cells r)) rfl (by kernel_rfl) (by kernel_rfl) (by kernel_rfl) (fun _ _ _ h => h) (Or.inl ⟨by rfl, fun W hS => B.load (.tmp 10) rfl rfl hS.1⟩) ⟨e10, e8⟩ ?_
    refine wpAnyH_take (i := 1) (v := .agg (B.cells r)) rfl (by kernel_rfl) (by kernel_rfl) (by kernel_rfl) (fun _ _ _ h => h) (Or.inl ⟨by rfl, fun W hS => B.load (.tmp 10) rfl rfl hS.1⟩) ⟨e10, e8⟩ ?_
    refine wpAnyH_take (i := 3) (v := .pointer (some ⟨d, 1, none⟩)) rfl (by kernel_rfl) (by kernel_rfl) (by kernel_rfl) (fun _ _ _ h => h) (Or.inl ⟨by rfl, fun W hS => by go_simp⟩) ⟨e10, e8⟩ ?_
    refine wpAnyH_take (i := 4) (v := .agg (B.cells D)) rfl (by kernel_rfl) (by kernel_rfl) (by kernel_rfl) (fun _ _ _ h => h) (Or.inl ⟨by rfl, fun W hS => B.loadB (.tmp 54) rfl rfl hS.2⟩) ⟨e10, e8⟩ ?_
    refine wpAnyH_all (rs := [2]) (by kernel_rfl) (by simp) fun i hi => ?_
    obtain rfl : i = 2 := by simpa using hi
    refine B.opCall (i := 2) rfl rfl (.agg (B.cells r)) (.agg (B.cells r)) 69 _ (.tmp 51) (.tmp 52) _ Try.func69 rfl rfl rfl rfl rfl ?_
    refine (PR _).mono ?_
    rintro e w6 ⟨rfl, hb6⟩
    refine ⟨_, rfl, ?_⟩
    have t8 : B.HasB w6 d lb D := B.HasB.below (w := { w4 with drawn := w4.drawn + 1 }) e8 hb6
    have t9 : B.Has w6 g q := B.Has.below (w := { w4 with drawn := w4.drawn + 1 }) e9 hb6
    have t10 : B.Has w6 (g + 1) r := B.Has.below (w := { w4 with drawn := w4.drawn + 1 }) e10 hb6
    have t12 : B.Has w6 o 1 := B.Has.below (w := { w4 with drawn := w4.drawn + 1 }) e12 hb6
    have V7 := below_then W7.drew W7.drew.size hb6
    refine ⟨⟨t10, t8⟩, ?_⟩
    clear e8 e9 e10 e12 W7 hb6
    refine wpAnyH_all (rs := [5]) (by kernel_rfl) (by simp) fun i hi => ?_
    obtain rfl : i = 5 := by simpa using hi
    refine B.opCall (i := 5) rfl rfl (.agg (B.cells R2)) (.agg (B.cells D)) 68 _ (.tmp 53) (.tmp 55) _ Try.func68 rfl rfl rfl rfl rfl ?_
    refine (SZ _).mono ?_
    rintro e w7 ⟨rfl, hb7⟩
    refine ⟨_, rfl, ?_⟩
    have e9 := t9.below hb7
    have e12 := t12.below hb7
    have W7 := below_then V7 V7.size hb7
    refine ⟨⟨t10.below hb7, t8.below hb7⟩, ?_⟩
    refine wpAnyH_take (i := 6) (v := .int .i64 (1)) rfl (by kernel_rfl) (by kernel_rfl) (by kernel_rfl) (fun _ _ _ h => h) (Or.inl ⟨by rfl, fun W hS => by go_simp⟩) ⟨t10.below hb7, t8.below hb7⟩ ?_
    refine wpAnyH_done (by kernel_rfl) ?_ _
    clear t8 t9 t10 t12 V7 hb7 PR SZ
    go_upto_region 14 with (fail)
    have uv : lombardref02_div.up 1 L N D = true := by exact UV.out
    have qv : lombardref02_div.Q 1 L N D = (q + 1) := by unfold lombardref02_div.Q; rw [uv]; rw [if_pos rfl, HQ.out]
    obtain ⟨M, hM⟩ : ∃ M, M = (q + 1) := ⟨_, rfl⟩
    have SX := fun W => SM M (by rw [hM]; omega) W
    obtain ⟨v, hv⟩ : ∃ v, v = lombardref02_small.v L M := ⟨_, rfl⟩
    obtain ⟨k, hk⟩ : ∃ k, k = lombardref02_small.ok L M := ⟨_, rfl⟩
    have RES : Aside0 (lombardref02_div.r 1 L N D = (if k = true then v else 0) ∧ lombardref02_div.e 1 L N D = if k = true then 0 else 3) := ⟨by
      unfold lombardref02_div.r lombardref02_div.e
      rw [qv, ← hM, ← hv, ← hk]
      exact ⟨rfl, rfl⟩⟩
    rw [← hv, ← hk] at SX
    clear SM uv qv hv hk
    rw [← hM] at PL
    clear hM
    go_upto_region 16 with (first | ((with_reducible refine B.gateOp (.load 73 (.tmp 9)) rfl ?_); refine wpList_load_row rfl 73 (.tmp 9) rfl g rfl 73 (B.cells q) (0, 0) _ e9 B.under rfl (B.infoN _) ?_) | ((with_reducible refine B.gateOp (.load 73 (.tmp 12)) rfl ?_); refine wpList_load_row rfl 73 (.tmp 12) rfl o rfl 73 (B.cells 1) (0, 0) _ e12 B.under rfl (B.infoN _) ?_) | (go_at_call 69; (with_reducible refine (PL _).mono ?_); rintro e w7 ⟨rfl, hb7⟩; have f9 := e9.below hb7) | ((with_reducible refine B.gateOp (.store 73 (.tmp 9) (.tmp 71)) rfl ?_); refine wpList_store_row rfl 73 (.tmp 9) (.tmp 71) rfl g (B.cells M) rfl rfl 73 _ f9 (B.infoN _) (by rw [B.size, B.size]) (B.plain _) ?_))
    have m9 := B.Has.row f9 M
    have M7 := B.below_row (below_then W7 W7.size hb7) (k := g) (by omega) (B.cells M)
    clear f9 hb7 e9 e12 W7 PL
    generalize w7.setRow g (B.cells M) = w8 at *
    go_upto_region 17 with (first | ((with_reducible refine B.gateOp (.load 73 (.tmp 9)) rfl ?_); refine wpList_load_row rfl 73 (.tmp 9) rfl g rfl 73 (B.cells M) (0, 0) _ m9 B.under rfl (B.infoN _) ?_) | ((with_reducible refine B.gateOp (.build 75 #[(0, .tmp 73), (1, .tmp 74)]) rfl ?_); refine B.wpBuildLQ rfl (.tmp 73) (.tmp 74) rfl L M rfl rfl ?_) | (go_at_call 70; (with_reducible refine (SX _).mono ?_); rintro e w9 ⟨rfl, hb9⟩))
    have B9 := below_then M7 M7.size hb9
    clear m9 M7 hb9 SX
    cases k with
    | true =>
      go_wp2
      go_ret2
      exact ⟨by rw [RES.out.1, RES.out.2]; rfl, B9⟩
    | false =>
      go_wp2
      go_ret2
      exact ⟨by rw [RES.out.1, RES.out.2]; rfl, B9⟩
set_option maxRecDepth 100000 in
set_option maxHeartbeats 8000000 in
theorem lombardref02_div.callsW (less : Bool) (N : Nat) (b way : Int) (h0 : way ≠ 0) (h1 : way ≠ 1) (w : World) : Calls Try.prog 51 #[.agg (B.big less N), .int .i64 b, .int .i64 way] w fun e w' => e = .returned (.tuple #[.int .i64 0, .int .i64 2]) ∧ Below w.heap.size w w' := by
  have q0 : (way != 0) = true := by simp [h0]
  have q1 : (way != 1) = true := by simp [h1]
  clear h0 h1
  have W1 := below_alloc (Below.refl w.heap.size w) (.cells (B.big less N) 75)
  go_enter Try.func51, Try.ntmps51
  go_wp2
  go_ret2
  exact ⟨rfl, W1⟩
set_option maxRecDepth 100000 in
set_option maxHeartbeats 8000000 in
theorem lombardref02_div.callsZ0 (less : Bool) (N : Nat) (w : World) : Calls Try.prog 51 #[.agg (B.big less N), .int .i64 0, .int .i64 0] w fun e w' => e = .returned (.tuple #[.int .i64 0, .int .i64 4]) ∧ Below w.heap.size w w' := by
  have W1 := below_alloc (Below.refl w.heap.size w) (.cells (B.big less N) 75)
  go_enter Try.func51, Try.ntmps51
  go_wp2
  go_ret2
  exact ⟨rfl, W1⟩
set_option maxRecDepth 100000 in
set_option maxHeartbeats 8000000 in
theorem lombardref02_div.callsZ1 (less : Bool) (N : Nat) (w : World) : Calls Try.prog 51 #[.agg (B.big less N), .int .i64 0, .int .i64 1] w fun e w' => e = .returned (.tuple #[.int .i64 0, .int .i64 4]) ∧ Below w.heap.size w w' := by
  have W1 := below_alloc (Below.refl w.heap.size w) (.cells (B.big less N) 75)
  go_enter Try.func51, Try.ntmps51
  go_wp2
  go_ret2
  exact ⟨rfl, W1⟩
def lombardref02_div.v (less : Bool) (N : Nat) (b way : Int) : Int × Int :=
  if way ≠ 0 ∧ way ≠ 1 then (0, 2) else if b = 0 then (0, 4) else (lombardref02_div.r way (less != decide (b < 0)) N b.natAbs, lombardref02_div.e way (less != decide (b < 0)) N b.natAbs)
theorem lombardref02_div.calls (less : Bool) (N : Nat) (hN : N < 2 ^ 256) (b way : Int) (b0 : -9223372036854775808 ≤ b) (b1 : b ≤ 9223372036854775807) (w : World) : Calls Try.prog 51 #[.agg (B.big less N), .int .i64 b, .int .i64 way] w fun e w' => e = .returned (.tuple #[.int .i64 (lombardref02_div.v less N b way).1, .int .i64 (lombardref02_div.v less N b way).2]) ∧ Below w.heap.size w w' := by
  unfold lombardref02_div.v
  by_cases c : way ≠ 0 ∧ way ≠ 1
  · rw [if_pos c]
    exact lombardref02_div.callsW less N b way c.1 c.2 w
  · rw [if_neg c]
    by_cases z : b = 0
    · rw [if_pos z]
      subst z
      rcases (show way = 0 ∨ way = 1 by omega) with h | h <;> subst h
      · exact lombardref02_div.callsZ0 less N w
      · exact lombardref02_div.callsZ1 less N w
    · rw [if_neg z]
      rcases (show way = 0 ∨ way = 1 by omega) with h | h <;> subst h
      · exact lombardref02_div.calls0 less N hN b b0 b1 z w
      · exact lombardref02_div.calls1 less N hN b b0 b1 z w


end Go.Proofs.Ytohbdjfabghagaa.S
