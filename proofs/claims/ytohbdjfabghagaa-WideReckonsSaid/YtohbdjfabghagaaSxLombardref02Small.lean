/- Printed by a program of this session out of the translation: what each function called here computes, and that its call comes to just that. Conditions: none beyond those that each theorem names. -/
import Derived.Test.YtohbdjfabghagaaSx0
import Derived.Test.YtohbdjfabghagaaSxLombardref02Size
import Derived.Test.YtohbdjfabghagaaSxLombardref02Big
namespace Go.Proofs.Ytohbdjfabghagaa.S
open Go.RowKit Go.Proofs.YtohbdjfabghagaaW.PrintWords Go.Proofs.YtohbdjfabghagaaW.PrintLast Go.Proofs.YtohbdjfabghagaaW.PrintMore
attribute [local go_sem] max2_int min2_int max_two min_two max_three min_three max_four min_four   -- for this text's walks alone
attribute [local go_sem] Go.Proofs.Ytohbdjfabghagaa.XWalk.cell2
set_option linter.unusedVariables false
set_option linter.unusedSimpArgs false

/-! ### lombardref02_small: function 70 -/
-- IMPORT BigMath
/-- a row of bits behind a sign, loaded -/
theorem B.loadVarB {W : World} {g N : Nat} {less : Bool} (h : B.HasB W g less N) : (loadVar 73 ⟨g, 1, none⟩).run Try.prog W = .ok (.agg (B.cells N)) W := by
  have hl : (loadCells ⟨g, 1, none⟩ (B.cells N).toList.length).run Try.prog W = .ok (B.cells N).toList.toArray W :=
    run_loadCells_list (P := Try.prog) W ⟨g, 1, none⟩ (B.cells N).toList (fun j v hv => by
      have hadd : (⟨g, 1, none⟩ : Addr).add j = ⟨g, 1 + j, none⟩ := by unfold Addr.add; split <;> simp_all
      have hj : j < 260 := by
        have := (List.getElem?_eq_some_iff.1 hv).1
        rw [Array.length_toList, B.size] at this
        exact this
      rw [hadd, h.cell hj]
      rw [Array.getElem?_toList, B.get N j hj] at hv
      exact hv)
  have hi := B.info
  cases hq : Try.prog.info? 73 with
  | none => simp [hq] at hi
  | some i =>
    have hs : i.size = 260 := by simpa [hq] using hi
    have hagg : (isAgg 73).run Try.prog W = .ok true W := by
      unfold isAgg
      rw [Sem.run_bind, run_underlying B.under W]
      rfl
    rw [Array.length_toList, B.size, Array.toArray_toList] at hl
    simp [loadVar, Sem.run_bind, hagg, sizeOf, typeInfo, hq, hs, hl]
theorem B.wpLoadB {ops : Array Oper} {rest : List Oper} {o : Oper} {a : Act} {w : World} {Q : Exit → Act → World → Prop} (hgd : o.guard = none) (x : Operand) (ho : o.op = .load 73 x)
    (g N : Nat) (less : Bool) (hx : a.eval x = .pointer (some ⟨g, 1, none⟩)) (hg : B.HasB w g less N)
    (h : wpList Try.prog ops Q rest (a.put o.dst (.agg (B.cells N))) w) : wpList Try.prog ops Q (o :: rest) a w :=
  wpList_plain hgd fun _ hK => by
    unfold Oper.wp execOp
    simp only [ho, hx, Instr.loadAt, Instr.sureAddr, Sem.run_bind, Sem.run_pure, Result.andThen_ok, B.loadVarB hg]
    exact hK _ _ h
theorem B.built63 : (Try.prog.built 73 #[(63, Value.int IntKind.u8 1)].toList).getD #[] = B.cells (2 ^ 63) := by
  have e : (Try.prog.built 73 #[(63, Value.int IntKind.u8 1)].toList).getD #[] = (Array.replicate 260 (.int .u8 0)).setIfInBounds 63 (.int .u8 1) := by kernel_rfl
  have s := B.put (2 ^ 63) 63 1 (by omega) (by unfold B.bit Go.Proofs.Ytohbdjfabghagaa.BigMath.bitN; decide)
  rw [show (2 : Nat) ^ 63 % 2 ^ 63 = 0 by decide, show (2 : Nat) ^ 63 % 2 ^ (63 + 1) = 2 ^ 63 by decide] at s
  rw [e, B.rep, s]
theorem B.gate {P : Program} {ops : Array Oper} {rest : List Oper} {o : Oper} {a : Act} {w : World} {Q : Exit → Act → World → Prop} (h : wpList P ops Q (o :: rest) a w) : wpList P ops Q (o :: rest) a w := h
theorem B.gateOp {P : Program} {ops : Array Oper} {rest : List Oper} {o : Oper} {a : Act} {w : World} {Q : Exit → Act → World → Prop} (op : Op) (ho : o.op = op) (h : wpList P ops Q (o :: rest) a w) : wpList P ops Q (o :: rest) a w := h
theorem B.some63 : (Try.prog.built 73 #[(63, Value.int IntKind.u8 1)].toList).isSome = true := by kernel_rfl
theorem B.wpBuild63 {ops : Array Oper} {rest : List Oper} {o : Oper} {a : Act} {w : World} {Q : Exit → Act → World → Prop} (hgd : o.guard = none) (ho : o.op = .build 73 #[(63, .const (.int .u8 1))]) {L : Nat} (hL : L = 2 ^ 63)
    (h : wpList Try.prog ops Q rest (a.put o.dst (.agg (B.cells L))) w) : wpList Try.prog ops Q (o :: rest) a w := by
  subst hL
  have m : (#[((63 : Nat), Operand.const (Value.int IntKind.u8 1))].map fun (i, x) => (i, a.eval x)) = #[(63, Value.int IntKind.u8 1)] := by simp [Act.eval]
  refine wpList_build hgd 73 #[(63, .const (.int .u8 1))] ho ?_ ?_
  · rw [m]
    exact B.some63
  · rw [m, B.built63]
    exact h
def lombardref02_small.v (less : Bool) (N : Nat) : Int := if 2 ^ 63 < N ∨ N = 2 ^ 63 ∧ less = false then 0 else if less = true then -(N : Int) else N
def lombardref02_small.ok (less : Bool) (N : Nat) : Bool := if 2 ^ 63 < N ∨ N = 2 ^ 63 ∧ less = false then false else true
theorem lombardref02_small.neg {N : Nat} (h : N ≤ 2 ^ 63) : wrap64 (IntKind.u64.wrap (-(N : Int))) = -(N : Int) := by
  have e : (2 : Nat) ^ 63 = 9223372036854775808 := by decide
  have w : IntKind.u64.wrap (-(N : Int)) = (-(N : Int)) % 18446744073709551616 := by
    simp only [IntKind.wrap, IntKind.bits, IntKind.signed]
    simp
  rw [w]
  unfold wrap64
  omega
theorem lombardref02_small.pos {N : Nat} (h : N < 2 ^ 63) : wrap64 (N : Int) = (N : Int) := by
  have e : (2 : Nat) ^ 63 = 9223372036854775808 := by decide
  unfold wrap64
  omega
set_option maxRecDepth 100000 in
set_option maxHeartbeats 8000000 in
theorem lombardref02_small.calls (less : Bool) (N : Nat) (hN : N < 2 ^ 260) (w : World) : Calls Try.prog 70 #[.agg (B.big less N)] w fun e w' => e = .returned (.tuple #[.int .i64 (lombardref02_small.v less N), .bool (lombardref02_small.ok less N)]) ∧ Below w.heap.size w w' := by
  have SZ := fun W => lombardref02_size.calls N (2 ^ 63) hN (@Nat.pow_lt_pow_right 2 63 260 (by decide) (by decide)) W
  obtain ⟨L, hL⟩ : ∃ L : Nat, L = 2 ^ 63 := ⟨_, rfl⟩
  rw [← hL] at SZ
  have HL := Aside0.mk hL
  clear hL hN
  go_enter Try.func70, Try.ntmps70
  have n1 := B.HasB.new w less N
  go_upto_region 1 with (fail)
  have nz := B.Has.new0 (w.alloc (.cells (B.big less N) 75))
  rw [World.size_alloc] at nz
  have NZ := Aside0.mk nz
  have N1 := Aside0.mk n1
  clear nz n1
  go_step
  refine B.wpBuild63 rfl rfl HL.out ?_
  go_step
  go_step
  go_step
  refine wpList_store_row rfl 73 (.tmp 4) (.tmp 8) rfl (w.heap.size + 1) (B.cells L) rfl rfl 73 _ NZ.out (B.infoN _) (by rw [B.size, B.size]) (B.plain _) ?_
  have hL2 := NZ.out.row L
  have n2 : B.HasB (((w.alloc (.cells (B.big less N) 75)).alloc (.cells Try.zeroCells73 73)).setRow (w.heap.size + 1) (B.cells L)) w.heap.size less N := (N1.out.alloc _).setR _ (by omega)
  have hW := B.below_row (below_alloc (below_alloc (Below.refl _ w) (.cells (B.big less N) 75)) (.cells Try.zeroCells73 73)) (k := w.heap.size + 1) (by omega) (B.cells L)
  clear NZ N1
  generalize ((w.alloc (.cells (B.big less N) 75)).alloc (.cells Try.zeroCells73 73)).setRow (w.heap.size + 1) (B.cells L) = w2 at *
  go_step
  go_step
  go_step
  go_step
  go_step
  go_step
  go_step
  go_step
  refine B.wpLoadB rfl (.tmp 9) rfl w.heap.size N less rfl n2 ?_
  go_upto_region 3 with (first | (refine wpList_load_row rfl 73 (.tmp 4) rfl (w.heap.size + 1) rfl 73 (B.cells L) (0, 0) _ hL2 B.under rfl (B.infoN _) ?_) | (go_at_call 68; refine (SZ _).mono ?_; rintro e w3 ⟨rfl, hb3⟩))
  have n3 := n2.below hb3
  have hW3 := below_then hW hW.size hb3
  have c0 := n3.cell0
  have N3 := Aside0.mk n3
  have W3 := Aside0.mk hW3
  have LOW : Aside0 (∀ s i : Nat, i + 0 = 64 → s = N % 2 ^ i → s = N % 2 ^ 64) := ⟨fun s i h1 h2 => by rw [h2, show i = 64 by omega]⟩
  clear n3 hW3 n2 hL2 hW hb3 SZ
  rcases Nat.lt_trichotomy N L with lt | eq | gt
  · have o : lombardref02_size.ord N L = -1 := by unfold lombardref02_size.ord; rw [if_pos lt]
    rw [o]
    have RES : Aside0 (lombardref02_small.v less N = (if less = true then -(N : Int) else N) ∧ lombardref02_small.ok less N = true) := ⟨by
      have h := HL.out
      unfold lombardref02_small.v lombardref02_small.ok
      rw [← h]
      have z : ¬(L < N ∨ N = L ∧ less = false) := by omega
      rw [if_neg z, if_neg z]
      exact ⟨rfl, rfl⟩⟩
    have NL : Aside0 (N ≤ 2 ^ 63 ∧ (less = false → N < 2 ^ 63)) := ⟨by rw [← HL.out]; omega⟩
    clear o lt HL
    go_wp2
    go_loopg [6, 7] 64 (fun kq v6 v7 w' => ∃ (s i : Nat), v6 = .int .u64 s ∧ v7 = .int .i64 i ∧ Aside0 (i + kq = 64) ∧ Aside0 (s = N % 2 ^ i) ∧ Aside0 (B.HasB w' w.heap.size less N) ∧ Aside0 (Below w.heap.size w w'))
    case atStart => exact ⟨0, 0, rfl, rfl, ⟨rfl⟩, ⟨by rw [Nat.pow_zero, Nat.mod_one]⟩, N3, W3⟩
    case round =>
      clear N3 W3
      obtain ⟨s, i, rfl, rfl, hik, hs, hX, hW⟩ := hrel
      cases gk with
      | zero =>
        have q1 : decide ((i : Int) < 64) = false := decide_eq_false (by have := hik.out; omega)
        have s1 := LOW.out s i hik.out hs.out
        have c0 := hX.out.cell0
        clear hik hs
        have sv : ∀ x : Nat, x = N % 2 ^ 64 → x = N := fun x h => by rw [h]; exact Nat.mod_eq_of_lt (Nat.lt_of_le_of_lt NL.out.1 (Nat.pow_lt_pow_right (by omega) (by omega)))
        have s2 := sv s s1
        subst s2
        clear sv s1 LOW
        cases less with
        | true =>
          have rv : wrap64 (IntKind.u64.wrap (-(s : Int))) = lombardref02_small.v true s := by
            rw [RES.out.1]
            simp only [eq_self, if_true]
            exact lombardref02_small.neg NL.out.1
          have RV := Aside0.mk rv
          clear rv
          go_wp2
          go_ret2
          exact ⟨by rw [RES.out.2, ← RV.out]; rfl, hW.out⟩
        | false =>
          have rv : wrap64 (s : Int) = lombardref02_small.v false s := by
            rw [RES.out.1, if_neg (by simp)]
            exact lombardref02_small.pos (NL.out.2 rfl)
          have RV := Aside0.mk rv
          clear rv
          go_wp2
          go_ret2
          exact ⟨by rw [RES.out.2, ← RV.out]; rfl, hW.out⟩
      | succ k1 =>
        have hi : i < 64 := by have := hik.out; omega
        have q1 : decide ((i : Int) < 64) = true := decide_eq_true (by omega)
        have xX := B.ixB w.heap.size i (by omega)
        have cX := hX.out.cell (i := i) (by omega)
        have bb := B.bit_bd N i
        have b1 : (i : Int) < 64 := by omega
        have o := Go.Proofs.Ytohbdjfabghagaa.BigMath.or_bit (N := N) (i := i) hi
        rw [← hs.out] at o
        have OB := Aside0.mk o
        clear o
        go_upto_region 8 with (fail)
        rw [show bits BinOp.or IntKind.u64 (s : Int) (IntKind.u64.wrap (B.bit N i * 2 ^ i)) = ((N % 2 ^ (i + 1) : Nat) : Int) from OB.out]
        obtain ⟨s', hs'⟩ : ∃ s' : Nat, s' = N % 2 ^ (i + 1) := ⟨_, rfl⟩
        rw [← hs']
        have HS := Aside0.mk hs'
        clear hs'
        go_wp2
        go_roundg k1
        case measure => omega
        case rel => exact ⟨s', i + 1, rfl, by first | rfl | (rw [B.w1 (by omega) (by omega)]; rfl), ⟨by have := hik.out; omega⟩, HS, hX, hW⟩
  · have o : lombardref02_size.ord N L = 0 := by unfold lombardref02_size.ord; rw [if_neg (by omega), if_neg (by omega)]
    rw [o]
    cases less with
    | false =>
      have RES : Aside0 (lombardref02_small.v false N = 0 ∧ lombardref02_small.ok false N = false) := ⟨by
        have h := HL.out
        unfold lombardref02_small.v lombardref02_small.ok
        rw [← h]
        have z : L < N ∨ N = L ∧ false = false := .inr ⟨eq, rfl⟩
        rw [if_pos z, if_pos z]
        exact ⟨rfl, rfl⟩⟩
      clear o eq HL
      go_wp2
      go_ret2
      exact ⟨by rw [RES.out.1, RES.out.2]; rfl, W3.out⟩
    | true =>
      have RES : Aside0 (lombardref02_small.v true N = (if true = true then -(N : Int) else N) ∧ lombardref02_small.ok true N = true) := ⟨by
        have h := HL.out
        unfold lombardref02_small.v lombardref02_small.ok
        rw [← h]
        have z : ¬(L < N ∨ N = L ∧ true = false) := by simp; omega
        rw [if_neg z, if_neg z]
        exact ⟨rfl, rfl⟩⟩
      have NL : Aside0 (N ≤ 2 ^ 63) := ⟨by rw [← HL.out]; omega⟩
      clear o eq HL
      go_wp2
      go_loopg [6, 7] 64 (fun kq v6 v7 w' => ∃ (s i : Nat), v6 = .int .u64 s ∧ v7 = .int .i64 i ∧ Aside0 (i + kq = 64) ∧ Aside0 (s = N % 2 ^ i) ∧ Aside0 (B.HasB w' w.heap.size true N) ∧ Aside0 (Below w.heap.size w w'))
      case atStart => exact ⟨0, 0, rfl, rfl, ⟨rfl⟩, ⟨by rw [Nat.pow_zero, Nat.mod_one]⟩, N3, W3⟩
      case round =>
        clear N3 W3
        obtain ⟨s, i, rfl, rfl, hik, hs, hX, hW⟩ := hrel
        cases gk with
        | zero =>
          have q1 : decide ((i : Int) < 64) = false := decide_eq_false (by have := hik.out; omega)
          have s1 := LOW.out s i hik.out hs.out
          have c0 := hX.out.cell0
          clear hik hs
          have sv : ∀ x : Nat, x = N % 2 ^ 64 → x = N := fun x h => by rw [h]; exact Nat.mod_eq_of_lt (Nat.lt_of_le_of_lt NL.out (Nat.pow_lt_pow_right (by omega) (by omega)))
          have s2 := sv s s1
          subst s2
          clear sv s1 LOW
          have rv : wrap64 (IntKind.u64.wrap (-(s : Int))) = lombardref02_small.v true s := by
            rw [RES.out.1]
            simp only [eq_self, if_true]
            exact lombardref02_small.neg NL.out
          have RV := Aside0.mk rv
          clear rv
          go_wp2
          go_ret2
          exact ⟨by rw [RES.out.2, ← RV.out]; rfl, hW.out⟩
        | succ k1 =>
          have hi : i < 64 := by have := hik.out; omega
          have q1 : decide ((i : Int) < 64) = true := decide_eq_true (by omega)
          have xX := B.ixB w.heap.size i (by omega)
          have cX := hX.out.cell (i := i) (by omega)
          have bb := B.bit_bd N i
          have b1 : (i : Int) < 64 := by omega
          have o := Go.Proofs.Ytohbdjfabghagaa.BigMath.or_bit (N := N) (i := i) hi
          rw [← hs.out] at o
          have OB := Aside0.mk o
          clear o
          go_upto_region 8 with (fail)
          rw [show bits BinOp.or IntKind.u64 (s : Int) (IntKind.u64.wrap (B.bit N i * 2 ^ i)) = ((N % 2 ^ (i + 1) : Nat) : Int) from OB.out]
          obtain ⟨s', hs'⟩ : ∃ s' : Nat, s' = N % 2 ^ (i + 1) := ⟨_, rfl⟩
          rw [← hs']
          have HS := Aside0.mk hs'
          clear hs'
          go_wp2
          go_roundg k1
          case measure => omega
          case rel => exact ⟨s', i + 1, rfl, by first | rfl | (rw [B.w1 (by omega) (by omega)]; rfl), ⟨by have := hik.out; omega⟩, HS, hX, hW⟩
  · have o : lombardref02_size.ord N L = 1 := by unfold lombardref02_size.ord; rw [if_neg (by omega), if_pos gt]
    rw [o]
    have RES : Aside0 (lombardref02_small.v less N = 0 ∧ lombardref02_small.ok less N = false) := ⟨by
      have h := HL.out
      unfold lombardref02_small.v lombardref02_small.ok
      rw [← h]
      have z : L < N ∨ N = L ∧ less = false := .inl gt
      rw [if_pos z, if_pos z]
      exact ⟨rfl, rfl⟩⟩
    clear o gt HL
    go_wp2
    go_ret2
    exact ⟨by rw [RES.out.1, RES.out.2]; rfl, W3.out⟩


end Go.Proofs.Ytohbdjfabghagaa.S
