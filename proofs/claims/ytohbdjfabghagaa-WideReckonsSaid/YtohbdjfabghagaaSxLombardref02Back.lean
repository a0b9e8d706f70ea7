/- Printed by a program of this session out of the translation: what each function called here computes, and that its call comes to just that. Conditions: none beyond those that each theorem names. -/
import Derived.Test.YtohbdjfabghagaaSx0
import Derived.Test.YtohbdjfabghagaaSxLombardref02Size
import Derived.Test.YtohbdjfabghagaaSxLombardref02Big
import Derived.Test.YtohbdjfabghagaaSxLombardref02Small
namespace Go.Proofs.Ytohbdjfabghagaa.S
open Go.RowKit Go.Proofs.YtohbdjfabghagaaW.PrintWords Go.Proofs.YtohbdjfabghagaaW.PrintLast Go.Proofs.YtohbdjfabghagaaW.PrintMore
attribute [local go_sem] max2_int min2_int max_two min_two max_three min_three max_four min_four   -- for this text's walks alone
attribute [local go_sem] Go.Proofs.Ytohbdjfabghagaa.XWalk.cell2
set_option linter.unusedVariables false
set_option linter.unusedSimpArgs false

/-! ### lombardref02_back: function 62 -/
-- IMPORT BigMath
def lombardref02_back.M (less : Bool) (N : Nat) : Nat := if less = true then (2 ^ 128 - N) % 2 ^ 128 else N
def lombardref02_back.bad (less : Bool) (N : Nat) : Bool := decide (2 ^ 127 < N ∨ N = 2 ^ 127 ∧ less = false)
def lombardref02_back.hi (less : Bool) (N : Nat) : Int := if lombardref02_back.bad less N = true then 0 else IntKind.i64.wrap ((lombardref02_back.M less N / 2 ^ 64 : Nat) : Int)
def lombardref02_back.lo (less : Bool) (N : Nat) : Int := if lombardref02_back.bad less N = true then 0 else ((lombardref02_back.M less N % 2 ^ 64 : Nat) : Int)
theorem B.built127 : (Try.prog.built 73 #[(127, Value.int IntKind.u8 1)].toList).getD #[] = B.cells (2 ^ 127) := by
  have e : (Try.prog.built 73 #[(127, Value.int IntKind.u8 1)].toList).getD #[] = (Array.replicate 260 (.int .u8 0)).setIfInBounds 127 (.int .u8 1) := by kernel_rfl
  have s := B.put (2 ^ 127) 127 1 (by omega) (by unfold B.bit Go.Proofs.Ytohbdjfabghagaa.BigMath.bitN; decide)
  rw [show (2 : Nat) ^ 127 % 2 ^ 127 = 0 by decide, show (2 : Nat) ^ 127 % 2 ^ (127 + 1) = 2 ^ 127 by decide] at s
  rw [e, B.rep, s]
theorem B.some127 : (Try.prog.built 73 #[(127, Value.int IntKind.u8 1)].toList).isSome = true := by kernel_rfl
theorem B.wpBuild127 {ops : Array Oper} {rest : List Oper} {o : Oper} {a : Act} {w : World} {Q : Exit → Act → World → Prop} (hgd : o.guard = none) (ho : o.op = .build 73 #[(127, .const (.int .u8 1))]) {L : Nat} (hL : L = 2 ^ 127)
    (h : wpList Try.prog ops Q rest (a.put o.dst (.agg (B.cells L))) w) : wpList Try.prog ops Q (o :: rest) a w := by
  subst hL
  have m : (#[((127 : Nat), Operand.const (Value.int IntKind.u8 1))].map fun (i, x) => (i, a.eval x)) = #[(127, Value.int IntKind.u8 1)] := by simp [Act.eval]
  refine wpList_build hgd 73 #[(127, .const (.int .u8 1))] ho ?_ ?_
  · rw [m]
    exact B.some127
  · rw [m, B.built127]
    exact h
theorem B.bit_split {M i : Nat} (h : 64 ≤ i) : Go.Proofs.Ytohbdjfabghagaa.BigMath.bitN M i = Go.Proofs.Ytohbdjfabghagaa.BigMath.bitN (M / 2 ^ 64) (i - 64) := by
  unfold Go.Proofs.Ytohbdjfabghagaa.BigMath.bitN
  rw [Nat.div_div_eq_div_mul, ← Nat.pow_add, show 64 + (i - 64) = i by omega]
theorem lombardref02_back.lt (less : Bool) {N : Nat} (h : N < 2 ^ 128) : lombardref02_back.M less N < 2 ^ 128 := by
  unfold lombardref02_back.M
  split
  · exact Nat.mod_lt _ (Nat.two_pow_pos 128)
  · exact h
theorem lombardref02_back.or1 {M i : Nat} (h : i < 64) : bits .or .u64 ((M % 2 ^ (min i 64) : Nat) : Int) (IntKind.u64.wrap (B.bit M i * 2 ^ i)) = ((M % 2 ^ (min (i + 1) 64) : Nat) : Int) := by
  rw [show min i 64 = i by omega, show min (i + 1) 64 = i + 1 by omega]
  exact Go.Proofs.Ytohbdjfabghagaa.BigMath.or_bit h
theorem B.w64 (x : Int) : wrap64 x = IntKind.i64.wrap x := by
  rw [IntKind.wrap_i64]
  unfold wrap64
  omega
theorem lombardref02_back.or2 {M i : Nat} (h : 64 ≤ i) (h' : i < 128) : bits .or .i64 (IntKind.i64.wrap ((M / 2 ^ 64 % 2 ^ (i - 64) : Nat) : Int)) (wrap64 (B.bit M i * 2 ^ (i - 64))) = IntKind.i64.wrap ((M / 2 ^ 64 % 2 ^ (i + 1 - 64) : Nat) : Int) := by
  have e := Go.Proofs.Ytohbdjfabghagaa.BigMath.or_bit_signed (N := M / 2 ^ 64) (i := i - 64) (by omega)
  rw [← B.bit_split h, show i - 64 + 1 = i + 1 - 64 by omega] at e
  rw [B.w64]
  exact e
theorem lombardref02_back.round {N i c : Nat} (hN : N ≤ 2 ^ 128) (hi : i < 128) (hc : c = Go.Proofs.Ytohbdjfabghagaa.BigMath.turn N i) :
    bits .and .u8 (1 - B.bit N i + (c : Int)) 1 = B.bit ((2 ^ 128 - N) % 2 ^ 128) i ∧ (1 - B.bit N i + (c : Int)) / 2 = ((Go.Proofs.Ytohbdjfabghagaa.BigMath.turn N (i + 1) : Nat) : Int) := by
  have s := Go.Proofs.Ytohbdjfabghagaa.BigMath.turn_step hN hi
  have b1 := Go.Proofs.Ytohbdjfabghagaa.BigMath.bitN_lt N i
  have b2 := Go.Proofs.Ytohbdjfabghagaa.BigMath.turn_lt N i
  have b3 := Go.Proofs.Ytohbdjfabghagaa.BigMath.bitN_lt ((2 ^ 128 - N) % 2 ^ 128) i
  subst hc
  unfold B.bit
  generalize Go.Proofs.Ytohbdjfabghagaa.BigMath.turn N i = c at *
  generalize Go.Proofs.Ytohbdjfabghagaa.BigMath.turn N (i + 1) = c' at *
  generalize Go.Proofs.Ytohbdjfabghagaa.BigMath.bitN N i = u at *
  generalize Go.Proofs.Ytohbdjfabghagaa.BigMath.bitN ((2 ^ 128 - N) % 2 ^ 128) i = v at *
  clear hN
  rw [B.and1 (by omega) (by omega)]
  omega
set_option maxRecDepth 100000 in
set_option maxHeartbeats 8000000 in
theorem lombardref02_back.calls (less : Bool) (N : Nat) (hN : N < 2 ^ 260) (w : World) : Calls Try.prog 62 #[.agg (B.big less N)] w fun e w' => e = .returned (.tuple #[.agg #[.int .i64 (lombardref02_back.hi less N), .int .u64 (lombardref02_back.lo less N)], .bool (!lombardref02_back.bad less N)]) ∧ Below w.heap.size w w' := by
  have SZ := fun W => lombardref02_size.calls N (2 ^ 127) hN (@Nat.pow_lt_pow_right 2 127 260 (by decide) (by decide)) W
  obtain ⟨L, hL⟩ : ∃ L : Nat, L = 2 ^ 127 := ⟨_, rfl⟩
  rw [← hL] at SZ
  have HL := Aside0.mk hL
  clear hL hN
  go_enter Try.func62, Try.ntmps62
  have n1 := B.HasB.new w less N
  go_upto_region 1 with (fail)
  have nr := blk_alloc (blk_new (w.alloc (.cells (B.big less N) 75)) (.cells #[.int .i64 0, .int .u64 0] 32)) (.cells Try.zeroCells73 73)
  have nz := B.Has.new0 ((w.alloc (.cells (B.big less N) 75)).alloc (.cells #[.int .i64 0, .int .u64 0] 32))
  rw [World.size_alloc, World.size_alloc] at nz
  rw [World.size_alloc] at nr
  have NZ := Aside0.mk nz
  have NR := Aside0.mk nr
  have N1 := Aside0.mk n1
  clear nz n1 nr
  go_step
  refine B.wpBuild127 rfl rfl HL.out ?_
  go_step
  go_step
  go_step
  refine wpList_store_row rfl 73 (.tmp 4) (.tmp 11) rfl (w.heap.size + 1 + 1) (B.cells L) rfl rfl 73 _ NZ.out (B.infoN _) (by rw [B.size, B.size]) (B.plain _) ?_
  have hL2 := NZ.out.row L
  have n2 : B.HasB ((((w.alloc (.cells (B.big less N) 75)).alloc (.cells #[.int .i64 0, .int .u64 0] 32)).alloc (.cells Try.zeroCells73 73)).setRow (w.heap.size + 1 + 1) (B.cells L)) w.heap.size less N := ((N1.out.alloc _).alloc _).setR _ (by omega)
  have hR2 := (setRow_other _ (w.heap.size + 1 + 1) (w.heap.size + 1) (B.cells L) (by omega)).trans NR.out
  have hW := B.below_row (below_alloc (below_alloc (below_alloc (Below.refl _ w) (.cells (B.big less N) 75)) (.cells #[.int .i64 0, .int .u64 0] 32)) (.cells Try.zeroCells73 73)) (k := w.heap.size + 1 + 1) (by omega) (B.cells L)
  clear NZ N1 NR
  generalize (((w.alloc (.cells (B.big less N) 75)).alloc (.cells #[.int .i64 0, .int .u64 0] 32)).alloc (.cells Try.zeroCells73 73)).setRow (w.heap.size + 1 + 1) (B.cells L) = w2 at *
  go_step
  go_step
  go_step
  go_step
  go_step
  go_step
  go_step
  go_step
  refine B.wpLoadB rfl (.tmp 12) rfl w.heap.size N less rfl n2 ?_
  go_upto_region 3 with (first | (refine wpList_load_row rfl 73 (.tmp 4) rfl (w.heap.size + 1 + 1) rfl 73 (B.cells L) (0, 0) _ hL2 B.under rfl (B.infoN _) ?_) | (go_at_call 68; refine (SZ _).mono ?_; rintro e w3 ⟨rfl, hb3⟩))
  have n3 := n2.below hb3
  have r3 := blk_below hR2 hb3
  have hW3 := below_then hW hW.size hb3
  have c0 := n3.cell0
  have N3 := Aside0.mk n3
  have R3 := Aside0.mk r3
  have W3 := Aside0.mk hW3
  clear n3 hW3 n2 hL2 hW hb3 SZ hR2 r3
  have LT : Aside0 (L < 2 ^ 128 ∧ L = 2 ^ 127) := ⟨by rw [HL.out]; exact ⟨by decide, rfl⟩⟩
  rcases Nat.lt_trichotomy N L with CC | CC | CC
  · have o : lombardref02_size.ord N L = -1 := by unfold lombardref02_size.ord; rw [if_pos CC]
    rw [o]
    cases less with
    | true =>
      have NL : Aside0 (N ≤ 2 ^ 127) := ⟨by rw [← LT.out.2]; omega⟩
      have BAD : Aside0 (lombardref02_back.bad true N = false) := ⟨by
        unfold lombardref02_back.bad
        rw [← LT.out.2]
        exact decide_eq_false (by omega)⟩
      clear o CC HL LT
      obtain ⟨M, hM⟩ : ∃ M, M = lombardref02_back.M true N := ⟨_, rfl⟩
      have HI : Aside0 (lombardref02_back.hi true N = IntKind.i64.wrap ((M / 2 ^ 64 : Nat) : Int)) := ⟨by unfold lombardref02_back.hi; rw [BAD.out, if_neg (by simp), hM]⟩
      have LO : Aside0 (lombardref02_back.lo true N = ((M % 2 ^ 64 : Nat) : Int)) := ⟨by unfold lombardref02_back.lo; rw [BAD.out, if_neg (by simp), hM]⟩
      have ML : Aside0 (M < 2 ^ 128) := ⟨by rw [hM]; exact lombardref02_back.lt true (Nat.lt_of_le_of_lt NL.out (by decide))⟩
      have HM := Aside0.mk hM
      clear hM
      go_upto_region 6 with (fail)
      obtain ⟨z, hz⟩ : ∃ z, z = w3.heap.size := ⟨_, rfl⟩
      have n4 := N3.out.alloc (.cells #[.int .i64 0, .int .u64 0] 32)
      have r4 := blk_alloc R3.out (.cells #[.int .i64 0, .int .u64 0] 32)
      have o4 := blk_new w3 (.cells #[.int .i64 0, .int .u64 0] 32)
      have W4 := Aside0.mk (below_alloc W3.out (.cells #[.int .i64 0, .int .u64 0] 32))
      have zb : w.heap.size + 1 < z := by rw [hz]; exact blk_lt R3.out
      rw [← hz] at o4 ⊢
      have ZB := Aside0.mk zb
      have N4 := Aside0.mk n4
      have R4 := Aside0.mk r4
      have O4 := Aside0.mk o4
      clear n4 r4 o4 zb N3 R3 W3 hz c0
      generalize w3.alloc (.cells #[.int .i64 0, .int .u64 0] 32) = w4 at *
      go_wp2
      go_loopg [7, 8] 128 (fun kq v7 v8 w' => ∃ (c i x : Nat) (y : Int), v7 = .int .u8 c ∧ v8 = .int .i64 i ∧ Aside0 (x = M % 2 ^ (min i 64)) ∧ Aside0 (y = IntKind.i64.wrap ((M / 2 ^ 64 % 2 ^ (i - 64) : Nat) : Int)) ∧ Aside0 (i + kq = 128) ∧ Aside0 (c < 2 ∧ (true = true → c = Go.Proofs.Ytohbdjfabghagaa.BigMath.turn N i)) ∧ Aside0 (B.HasB w' w.heap.size true N) ∧ Aside0 (w'.heap[w.heap.size + 1]? = some (.cells #[.int .i64 0, .int .u64 0] 32 (0, 0))) ∧ Aside0 (w'.heap[z]? = some (.cells #[.int .i64 y, .int .u64 (x : Int)] 32 (0, 0))) ∧ Aside0 (Below w.heap.size w w'))
      case atStart =>
        refine ⟨1, 0, 0, 0, rfl, rfl, ⟨?_⟩, ⟨?_⟩, ⟨rfl⟩, ⟨by omega, fun _ => (Go.Proofs.Ytohbdjfabghagaa.BigMath.turn_zero N).symm⟩, N4, R4, ⟨O4.out⟩, W4⟩
        · rw [Nat.zero_min, Nat.pow_zero, Nat.mod_one]
        · rw [Nat.zero_sub, Nat.pow_zero, Nat.mod_one]
          rfl
      case round =>
        clear N4 R4 O4 W4
        obtain ⟨c, i, x, y, rfl, rfl, hx, hy, hik, hc, hX, hR, hO, hW⟩ := hrel
        have n0 : w.heap.size ≠ z := by have := ZB.out; omega
        have n1 : w.heap.size + 1 ≠ z := by have := ZB.out; omega
        have n2 : z ≠ w.heap.size + 1 := by have := ZB.out; omega
        have zw : w.heap.size ≤ z := by have := ZB.out; omega
        have fO0 := blk_cell hO.out 0
        have fO1 := blk_cell hO.out 1
        have zO0 := blk_frozen hO.out 0
        have zO1 := blk_frozen hO.out 1
        have fR0 := blk_cell hR.out 0
        have fR1 := blk_cell hR.out 1
        have zR0 := blk_frozen hR.out 0
        have zR1 := blk_frozen hR.out 1
        cases gk with
        | zero =>
          have q1 : decide ((i : Int) < 128) = false := decide_eq_false (by have := hik.out; omega)
          have i128 : i = 128 := by have := hik.out; omega
          have h1 : y = lombardref02_back.hi true N := by
            rw [HI.out, hy.out, i128]
            congr 2
            refine Nat.mod_eq_of_lt ?_
            rw [Nat.div_lt_iff_lt_mul (Nat.two_pow_pos 64), ← Nat.pow_add]
            exact ML.out
          have h2 : (x : Int) = lombardref02_back.lo true N := by rw [LO.out, hx.out, i128]; rfl
          rw [h1] at fO0
          rw [h2] at fO1
          clear h1 h2 i128 hik hc hx hy
          go_wp2
          refine bodyPost_ret (results_ct rfl _ _ (w.heap.size + 1) 32 #[.int .i64 (lombardref02_back.hi true N), .int .u64 (lombardref02_back.lo true N)] (0, 0) _ rfl (by refine blk_put (cs := #[.int .i64 (lombardref02_back.hi true N), .int .u64 0]) ?_ 1 _ rfl; refine blk_put (cs := #[.int .i64 0, .int .u64 0]) ?_ 0 _ rfl; exact hR.out) Try.underlying32 rfl (by kernel_rfl)) rfl ?_
          exact ⟨by rw [BAD.out]; rfl, below_set (below_set hW.out (by omega)) (by omega)⟩
        | succ k1 =>
          have hi : i < 128 := by have := hik.out; omega
          have q1 : decide ((i : Int) < 128) = true := decide_eq_true (by omega)
          have xX := B.ixB w.heap.size i (by omega)
          have cX := hX.out.cell (i := i) (by omega)
          have c0 := hX.out.cell0
          have bb := B.bit_bd N i
          have mm := B.bit_bd M i
          have rr := lombardref02_back.round (Nat.le_trans NL.out (by decide)) hi (hc.out.2 rfl)
          have em : M = (2 ^ 128 - N) % 2 ^ 128 := by rw [HM.out]; unfold lombardref02_back.M; rw [if_pos rfl]
          rw [← em] at rr
          have RR := Aside0.mk rr
          have cb := hc.out.1
          have CN : Aside0 (Go.Proofs.Ytohbdjfabghagaa.BigMath.turn N (i + 1) < 2) := ⟨Go.Proofs.Ytohbdjfabghagaa.BigMath.turn_lt _ _⟩
          have C0 : Aside0 (0 ≤ (c : Int) ∧ (c : Int) < 2) := ⟨by omega⟩
          clear rr em cb hc
          have cc := C0.out
          go_upto_region 14 with (fail)
          rw [RR.out.1, RR.out.2]
          obtain ⟨c', hc'⟩ : ∃ c', c' = Go.Proofs.Ytohbdjfabghagaa.BigMath.turn N (i + 1) := ⟨_, rfl⟩
          have CN2 := CN.out
          rw [← hc'] at CN2 ⊢
          have HC := Aside0.mk hc'
          have CC := Aside0.mk CN2
          clear hc' CN2 cc
          by_cases ci : i < 64
          · have q2 : decide ((i : Int) < 64) = true := decide_eq_true (by omega)
            have OB := Aside0.mk (lombardref02_back.or1 (M := M) ci)
            rw [← hx.out] at OB
            have i1 : i + 1 - 64 = i - 64 := by omega
            go_wp2
            go_roundg k1
            case measure => omega
            case rel => exact ⟨c', i + 1, M % 2 ^ (min (i + 1) 64), y, rfl, by first | rfl | (rw [B.w1 (by omega) (by omega)]; rfl), ⟨rfl⟩, ⟨by rw [i1]; exact hy.out⟩, ⟨by have := hik.out; omega⟩, ⟨CC.out, fun _ => HC.out⟩, ⟨hX.out.set _ _ n0⟩, ⟨blk_far hR.out n1 _⟩, ⟨blk_put hO.out 1 _ (by rw [OB.out]; rfl)⟩, ⟨below_set hW.out zw⟩⟩
          · have q2 : decide ((i : Int) < 64) = false := decide_eq_false (by omega)
            have OB := Aside0.mk (lombardref02_back.or2 (M := M) (i := i) (by omega) hi)
            rw [← hy.out] at OB
            have i1 : min (i + 1) 64 = min i 64 := by omega
            have i64 : 64 ≤ i := by omega
            go_wp2
            go_roundg k1
            case measure => omega
            case rel => exact ⟨c', i + 1, x, IntKind.i64.wrap ((M / 2 ^ 64 % 2 ^ (i + 1 - 64) : Nat) : Int), rfl, by first | rfl | (rw [B.w1 (by omega) (by omega)]; rfl), ⟨by rw [i1]; exact hx.out⟩, ⟨rfl⟩, ⟨by have := hik.out; omega⟩, ⟨CC.out, fun _ => HC.out⟩, ⟨hX.out.set _ _ n0⟩, ⟨blk_far hR.out n1 _⟩, ⟨blk_put hO.out 0 _ (by rw [OB.out]; rfl)⟩, ⟨below_set hW.out zw⟩⟩
    | false =>
      have NL : Aside0 (N ≤ 2 ^ 127) := ⟨by rw [← LT.out.2]; omega⟩
      have BAD : Aside0 (lombardref02_back.bad false N = false) := ⟨by
        unfold lombardref02_back.bad
        rw [← LT.out.2]
        exact decide_eq_false (by omega)⟩
      clear o CC HL LT
      obtain ⟨M, hM⟩ : ∃ M, M = lombardref02_back.M false N := ⟨_, rfl⟩
      have HI : Aside0 (lombardref02_back.hi false N = IntKind.i64.wrap ((M / 2 ^ 64 : Nat) : Int)) := ⟨by unfold lombardref02_back.hi; rw [BAD.out, if_neg (by simp), hM]⟩
      have LO : Aside0 (lombardref02_back.lo false N = ((M % 2 ^ 64 : Nat) : Int)) := ⟨by unfold lombardref02_back.lo; rw [BAD.out, if_neg (by simp), hM]⟩
      have ML : Aside0 (M < 2 ^ 128) := ⟨by rw [hM]; exact lombardref02_back.lt false (Nat.lt_of_le_of_lt NL.out (by decide))⟩
      have HM := Aside0.mk hM
      clear hM
      go_upto_region 6 with (fail)
      obtain ⟨z, hz⟩ : ∃ z, z = w3.heap.size := ⟨_, rfl⟩
      have n4 := N3.out.alloc (.cells #[.int .i64 0, .int .u64 0] 32)
      have r4 := blk_alloc R3.out (.cells #[.int .i64 0, .int .u64 0] 32)
      have o4 := blk_new w3 (.cells #[.int .i64 0, .int .u64 0] 32)
      have W4 := Aside0.mk (below_alloc W3.out (.cells #[.int .i64 0, .int .u64 0] 32))
      have zb : w.heap.size + 1 < z := by rw [hz]; exact blk_lt R3.out
      rw [← hz] at o4 ⊢
      have ZB := Aside0.mk zb
      have N4 := Aside0.mk n4
      have R4 := Aside0.mk r4
      have O4 := Aside0.mk o4
      clear n4 r4 o4 zb N3 R3 W3 hz c0
      generalize w3.alloc (.cells #[.int .i64 0, .int .u64 0] 32) = w4 at *
      go_wp2
      go_loopg [7, 8] 128 (fun kq v7 v8 w' => ∃ (c i x : Nat) (y : Int), v7 = .int .u8 c ∧ v8 = .int .i64 i ∧ Aside0 (x = M % 2 ^ (min i 64)) ∧ Aside0 (y = IntKind.i64.wrap ((M / 2 ^ 64 % 2 ^ (i - 64) : Nat) : Int)) ∧ Aside0 (i + kq = 128) ∧ Aside0 (c < 2 ∧ (false = true → c = Go.Proofs.Ytohbdjfabghagaa.BigMath.turn N i)) ∧ Aside0 (B.HasB w' w.heap.size false N) ∧ Aside0 (w'.heap[w.heap.size + 1]? = some (.cells #[.int .i64 0, .int .u64 0] 32 (0, 0))) ∧ Aside0 (w'.heap[z]? = some (.cells #[.int .i64 y, .int .u64 (x : Int)] 32 (0, 0))) ∧ Aside0 (Below w.heap.size w w'))
      case atStart =>
        refine ⟨1, 0, 0, 0, rfl, rfl, ⟨?_⟩, ⟨?_⟩, ⟨rfl⟩, ⟨by omega, fun _ => (Go.Proofs.Ytohbdjfabghagaa.BigMath.turn_zero N).symm⟩, N4, R4, ⟨O4.out⟩, W4⟩
        · rw [Nat.zero_min, Nat.pow_zero, Nat.mod_one]
        · rw [Nat.zero_sub, Nat.pow_zero, Nat.mod_one]
          rfl
      case round =>
        clear N4 R4 O4 W4
        obtain ⟨c, i, x, y, rfl, rfl, hx, hy, hik, hc, hX, hR, hO, hW⟩ := hrel
        have n0 : w.heap.size ≠ z := by have := ZB.out; omega
        have n1 : w.heap.size + 1 ≠ z := by have := ZB.out; omega
        have n2 : z ≠ w.heap.size + 1 := by have := ZB.out; omega
        have zw : w.heap.size ≤ z := by have := ZB.out; omega
        have fO0 := blk_cell hO.out 0
        have fO1 := blk_cell hO.out 1
        have zO0 := blk_frozen hO.out 0
        have zO1 := blk_frozen hO.out 1
        have fR0 := blk_cell hR.out 0
        have fR1 := blk_cell hR.out 1
        have zR0 := blk_frozen hR.out 0
        have zR1 := blk_frozen hR.out 1
        cases gk with
        | zero =>
          have q1 : decide ((i : Int) < 128) = false := decide_eq_false (by have := hik.out; omega)
          have i128 : i = 128 := by have := hik.out; omega
          have h1 : y = lombardref02_back.hi false N := by
            rw [HI.out, hy.out, i128]
            congr 2
            refine Nat.mod_eq_of_lt ?_
            rw [Nat.div_lt_iff_lt_mul (Nat.two_pow_pos 64), ← Nat.pow_add]
            exact ML.out
          have h2 : (x : Int) = lombardref02_back.lo false N := by rw [LO.out, hx.out, i128]; rfl
          rw [h1] at fO0
          rw [h2] at fO1
          clear h1 h2 i128 hik hc hx hy
          go_wp2
          refine bodyPost_ret (results_ct rfl _ _ (w.heap.size + 1) 32 #[.int .i64 (lombardref02_back.hi false N), .int .u64 (lombardref02_back.lo false N)] (0, 0) _ rfl (by refine blk_put (cs := #[.int .i64 (lombardref02_back.hi false N), .int .u64 0]) ?_ 1 _ rfl; refine blk_put (cs := #[.int .i64 0, .int .u64 0]) ?_ 0 _ rfl; exact hR.out) Try.underlying32 rfl (by kernel_rfl)) rfl ?_
          exact ⟨by rw [BAD.out]; rfl, below_set (below_set hW.out (by omega)) (by omega)⟩
        | succ k1 =>
          have hi : i < 128 := by have := hik.out; omega
          have q1 : decide ((i : Int) < 128) = true := decide_eq_true (by omega)
          have xX := B.ixB w.heap.size i (by omega)
          have cX := hX.out.cell (i := i) (by omega)
          have c0 := hX.out.cell0
          have bb := B.bit_bd N i
          have mm := B.bit_bd M i
          have em : M = N := by rw [HM.out]; unfold lombardref02_back.M; rw [if_neg (by simp)]
          have cb := hc.out.1
          have C0 : Aside0 (0 ≤ (c : Int) ∧ (c : Int) < 2) := ⟨by omega⟩
          rw [← em] at cX bb
          have em2 := em.symm
          clear em cb
          by_cases ci : i < 64
          · have q2 : decide ((i : Int) < 64) = true := decide_eq_true (by omega)
            have OB := Aside0.mk (lombardref02_back.or1 (M := M) ci)
            rw [← hx.out] at OB
            have i1 : i + 1 - 64 = i - 64 := by omega
            go_wp2
            go_roundg k1
            case measure => omega
            case rel => exact ⟨c, i + 1, M % 2 ^ (min (i + 1) 64), y, rfl, by first | rfl | (rw [B.w1 (by omega) (by omega)]; rfl), ⟨rfl⟩, ⟨by rw [i1]; exact hy.out⟩, ⟨by have := hik.out; omega⟩, ⟨hc.out.1, fun h => by simp at h⟩, ⟨hX.out.set _ _ n0⟩, ⟨blk_far hR.out n1 _⟩, ⟨blk_put hO.out 1 _ (by rw [OB.out]; rfl)⟩, ⟨below_set hW.out zw⟩⟩
          · have q2 : decide ((i : Int) < 64) = false := decide_eq_false (by omega)
            have OB := Aside0.mk (lombardref02_back.or2 (M := M) (i := i) (by omega) hi)
            rw [← hy.out] at OB
            have i1 : min (i + 1) 64 = min i 64 := by omega
            have i64 : 64 ≤ i := by omega
            go_wp2
            go_roundg k1
            case measure => omega
            case rel => exact ⟨c, i + 1, x, IntKind.i64.wrap ((M / 2 ^ 64 % 2 ^ (i + 1 - 64) : Nat) : Int), rfl, by first | rfl | (rw [B.w1 (by omega) (by omega)]; rfl), ⟨by rw [i1]; exact hx.out⟩, ⟨rfl⟩, ⟨by have := hik.out; omega⟩, ⟨hc.out.1, fun h => by simp at h⟩, ⟨hX.out.set _ _ n0⟩, ⟨blk_far hR.out n1 _⟩, ⟨blk_put hO.out 0 _ (by rw [OB.out]; rfl)⟩, ⟨below_set hW.out zw⟩⟩
  · have o : lombardref02_size.ord N L = 0 := by unfold lombardref02_size.ord; rw [if_neg (by omega), if_neg (by omega)]
    rw [o]
    cases less with
    | true =>
      have NL : Aside0 (N ≤ 2 ^ 127) := ⟨by rw [← LT.out.2]; omega⟩
      have BAD : Aside0 (lombardref02_back.bad true N = false) := ⟨by
        unfold lombardref02_back.bad
        rw [← LT.out.2]
        exact decide_eq_false (by simp; omega)⟩
      clear o CC HL LT
      obtain ⟨M, hM⟩ : ∃ M, M = lombardref02_back.M true N := ⟨_, rfl⟩
      have HI : Aside0 (lombardref02_back.hi true N = IntKind.i64.wrap ((M / 2 ^ 64 : Nat) : Int)) := ⟨by unfold lombardref02_back.hi; rw [BAD.out, if_neg (by simp), hM]⟩
      have LO : Aside0 (lombardref02_back.lo true N = ((M % 2 ^ 64 : Nat) : Int)) := ⟨by unfold lombardref02_back.lo; rw [BAD.out, if_neg (by simp), hM]⟩
      have ML : Aside0 (M < 2 ^ 128) := ⟨by rw [hM]; exact lombardref02_back.lt true (Nat.lt_of_le_of_lt NL.out (by decide))⟩
      have HM := Aside0.mk hM
      clear hM
      go_upto_region 6 with (fail)
      obtain ⟨z, hz⟩ : ∃ z, z = w3.heap.size := ⟨_, rfl⟩
      have n4 := N3.out.alloc (.cells #[.int .i64 0, .int .u64 0] 32)
      have r4 := blk_alloc R3.out (.cells #[.int .i64 0, .int .u64 0] 32)
      have o4 := blk_new w3 (.cells #[.int .i64 0, .int .u64 0] 32)
      have W4 := Aside0.mk (below_alloc W3.out (.cells #[.int .i64 0, .int .u64 0] 32))
      have zb : w.heap.size + 1 < z := by rw [hz]; exact blk_lt R3.out
      rw [← hz] at o4 ⊢
      have ZB := Aside0.mk zb
      have N4 := Aside0.mk n4
      have R4 := Aside0.mk r4
      have O4 := Aside0.mk o4
      clear n4 r4 o4 zb N3 R3 W3 hz c0
      generalize w3.alloc (.cells #[.int .i64 0, .int .u64 0] 32) = w4 at *
      go_wp2
      go_loopg [7, 8] 128 (fun kq v7 v8 w' => ∃ (c i x : Nat) (y : Int), v7 = .int .u8 c ∧ v8 = .int .i64 i ∧ Aside0 (x = M % 2 ^ (min i 64)) ∧ Aside0 (y = IntKind.i64.wrap ((M / 2 ^ 64 % 2 ^ (i - 64) : Nat) : Int)) ∧ Aside0 (i + kq = 128) ∧ Aside0 (c < 2 ∧ (true = true → c = Go.Proofs.Ytohbdjfabghagaa.BigMath.turn N i)) ∧ Aside0 (B.HasB w' w.heap.size true N) ∧ Aside0 (w'.heap[w.heap.size + 1]? = some (.cells #[.int .i64 0, .int .u64 0] 32 (0, 0))) ∧ Aside0 (w'.heap[z]? = some (.cells #[.int .i64 y, .int .u64 (x : Int)] 32 (0, 0))) ∧ Aside0 (Below w.heap.size w w'))
      case atStart =>
        refine ⟨1, 0, 0, 0, rfl, rfl, ⟨?_⟩, ⟨?_⟩, ⟨rfl⟩, ⟨by omega, fun _ => (Go.Proofs.Ytohbdjfabghagaa.BigMath.turn_zero N).symm⟩, N4, R4, ⟨O4.out⟩, W4⟩
        · rw [Nat.zero_min, Nat.pow_zero, Nat.mod_one]
        · rw [Nat.zero_sub, Nat.pow_zero, Nat.mod_one]
          rfl
      case round =>
        clear N4 R4 O4 W4
        obtain ⟨c, i, x, y, rfl, rfl, hx, hy, hik, hc, hX, hR, hO, hW⟩ := hrel
        have n0 : w.heap.size ≠ z := by have := ZB.out; omega
        have n1 : w.heap.size + 1 ≠ z := by have := ZB.out; omega
        have n2 : z ≠ w.heap.size + 1 := by have := ZB.out; omega
        have zw : w.heap.size ≤ z := by have := ZB.out; omega
        have fO0 := blk_cell hO.out 0
        have fO1 := blk_cell hO.out 1
        have zO0 := blk_frozen hO.out 0
        have zO1 := blk_frozen hO.out 1
        have fR0 := blk_cell hR.out 0
        have fR1 := blk_cell hR.out 1
        have zR0 := blk_frozen hR.out 0
        have zR1 := blk_frozen hR.out 1
        cases gk with
        | zero =>
          have q1 : decide ((i : Int) < 128) = false := decide_eq_false (by have := hik.out; omega)
          have i128 : i = 128 := by have := hik.out; omega
          have h1 : y = lombardref02_back.hi true N := by
            rw [HI.out, hy.out, i128]
            congr 2
            refine Nat.mod_eq_of_lt ?_
            rw [Nat.div_lt_iff_lt_mul (Nat.two_pow_pos 64), ← Nat.pow_add]
            exact ML.out
          have h2 : (x : Int) = lombardref02_back.lo true N := by rw [LO.out, hx.out, i128]; rfl
          rw [h1] at fO0
          rw [h2] at fO1
          clear h1 h2 i128 hik hc hx hy
          go_wp2
          refine bodyPost_ret (results_ct rfl _ _ (w.heap.size + 1) 32 #[.int .i64 (lombardref02_back.hi true N), .int .u64 (lombardref02_back.lo true N)] (0, 0) _ rfl (by refine blk_put (cs := #[.int .i64 (lombardref02_back.hi true N), .int .u64 0]) ?_ 1 _ rfl; refine blk_put (cs := #[.int .i64 0, .int .u64 0]) ?_ 0 _ rfl; exact hR.out) Try.underlying32 rfl (by kernel_rfl)) rfl ?_
          exact ⟨by rw [BAD.out]; rfl, below_set (below_set hW.out (by omega)) (by omega)⟩
        | succ k1 =>
          have hi : i < 128 := by have := hik.out; omega
          have q1 : decide ((i : Int) < 128) = true := decide_eq_true (by omega)
          have xX := B.ixB w.heap.size i (by omega)
          have cX := hX.out.cell (i := i) (by omega)
          have c0 := hX.out.cell0
          have bb := B.bit_bd N i
          have mm := B.bit_bd M i
          have rr := lombardref02_back.round (Nat.le_trans NL.out (by decide)) hi (hc.out.2 rfl)
          have em : M = (2 ^ 128 - N) % 2 ^ 128 := by rw [HM.out]; unfold lombardref02_back.M; rw [if_pos rfl]
          rw [← em] at rr
          have RR := Aside0.mk rr
          have cb := hc.out.1
          have CN : Aside0 (Go.Proofs.Ytohbdjfabghagaa.BigMath.turn N (i + 1) < 2) := ⟨Go.Proofs.Ytohbdjfabghagaa.BigMath.turn_lt _ _⟩
          have C0 : Aside0 (0 ≤ (c : Int) ∧ (c : Int) < 2) := ⟨by omega⟩
          clear rr em cb hc
          have cc := C0.out
          go_upto_region 14 with (fail)
          rw [RR.out.1, RR.out.2]
          obtain ⟨c', hc'⟩ : ∃ c', c' = Go.Proofs.Ytohbdjfabghagaa.BigMath.turn N (i + 1) := ⟨_, rfl⟩
          have CN2 := CN.out
          rw [← hc'] at CN2 ⊢
          have HC := Aside0.mk hc'
          have CC := Aside0.mk CN2
          clear hc' CN2 cc
          by_cases ci : i < 64
          · have q2 : decide ((i : Int) < 64) = true := decide_eq_true (by omega)
            have OB := Aside0.mk (lombardref02_back.or1 (M := M) ci)
            rw [← hx.out] at OB
            have i1 : i + 1 - 64 = i - 64 := by omega
            go_wp2
            go_roundg k1
            case measure => omega
            case rel => exact ⟨c', i + 1, M % 2 ^ (min (i + 1) 64), y, rfl, by first | rfl | (rw [B.w1 (by omega) (by omega)]; rfl), ⟨rfl⟩, ⟨by rw [i1]; exact hy.out⟩, ⟨by have := hik.out; omega⟩, ⟨CC.out, fun _ => HC.out⟩, ⟨hX.out.set _ _ n0⟩, ⟨blk_far hR.out n1 _⟩, ⟨blk_put hO.out 1 _ (by rw [OB.out]; rfl)⟩, ⟨below_set hW.out zw⟩⟩
          · have q2 : decide ((i : Int) < 64) = false := decide_eq_false (by omega)
            have OB := Aside0.mk (lombardref02_back.or2 (M := M) (i := i) (by omega) hi)
            rw [← hy.out] at OB
            have i1 : min (i + 1) 64 = min i 64 := by omega
            have i64 : 64 ≤ i := by omega
            go_wp2
            go_roundg k1
            case measure => omega
            case rel => exact ⟨c', i + 1, x, IntKind.i64.wrap ((M / 2 ^ 64 % 2 ^ (i + 1 - 64) : Nat) : Int), rfl, by first | rfl | (rw [B.w1 (by omega) (by omega)]; rfl), ⟨by rw [i1]; exact hx.out⟩, ⟨rfl⟩, ⟨by have := hik.out; omega⟩, ⟨CC.out, fun _ => HC.out⟩, ⟨hX.out.set _ _ n0⟩, ⟨blk_far hR.out n1 _⟩, ⟨blk_put hO.out 0 _ (by rw [OB.out]; rfl)⟩, ⟨below_set hW.out zw⟩⟩
    | false =>
      have BAD : Aside0 (lombardref02_back.bad false N = true) := ⟨by
        unfold lombardref02_back.bad
        rw [← LT.out.2]
        exact decide_eq_true (Or.inr ⟨CC, rfl⟩)⟩
      have HI : Aside0 (lombardref02_back.hi false N = 0) := ⟨by unfold lombardref02_back.hi; rw [BAD.out, if_pos rfl]⟩
      have LO : Aside0 (lombardref02_back.lo false N = 0) := ⟨by unfold lombardref02_back.lo; rw [BAD.out, if_pos rfl]⟩
      clear o CC HL LT
      have fR0 := blk_cell R3.out 0
      have fR1 := blk_cell R3.out 1
      have zR0 := blk_frozen R3.out 0
      have zR1 := blk_frozen R3.out 1
      go_wp2
      refine bodyPost_ret (results_ct rfl _ _ (w.heap.size + 1) 32 #[.int .i64 0, .int .u64 0] (0, 0) _ rfl (by refine blk_put (cs := #[.int .i64 0, .int .u64 0]) ?_ 1 _ rfl; refine blk_put (cs := #[.int .i64 0, .int .u64 0]) ?_ 0 _ rfl; exact R3.out) Try.underlying32 rfl (by kernel_rfl)) rfl ?_
      exact ⟨by rw [HI.out, LO.out, BAD.out]; rfl, below_set (below_set W3.out (by omega)) (by omega)⟩
  · have o : lombardref02_size.ord N L = 1 := by unfold lombardref02_size.ord; rw [if_neg (by omega), if_pos CC]
    rw [o]
    have BAD : Aside0 (lombardref02_back.bad less N = true) := ⟨by
      unfold lombardref02_back.bad
      rw [← LT.out.2]
      exact decide_eq_true (Or.inl CC)⟩
    have HI : Aside0 (lombardref02_back.hi less N = 0) := ⟨by unfold lombardref02_back.hi; rw [BAD.out, if_pos rfl]⟩
    have LO : Aside0 (lombardref02_back.lo less N = 0) := ⟨by unfold lombardref02_back.lo; rw [BAD.out, if_pos rfl]⟩
    clear o CC HL LT
    have fR0 := blk_cell R3.out 0
    have fR1 := blk_cell R3.out 1
    have zR0 := blk_frozen R3.out 0
    have zR1 := blk_frozen R3.out 1
    go_wp2
    refine bodyPost_ret (results_ct rfl _ _ (w.heap.size + 1) 32 #[.int .i64 0, .int .u64 0] (0, 0) _ rfl (by refine blk_put (cs := #[.int .i64 0, .int .u64 0]) ?_ 1 _ rfl; refine blk_put (cs := #[.int .i64 0, .int .u64 0]) ?_ 0 _ rfl; exact R3.out) Try.underlying32 rfl (by kernel_rfl)) rfl ?_
    exact ⟨by rw [HI.out, LO.out, BAD.out]; rfl, below_set (below_set W3.out (by omega)) (by omega)⟩


end Go.Proofs.Ytohbdjfabghagaa.S
