/- Printed by a program of this session out of the translation: what each function called here computes, and that its call comes to just that. Conditions: none beyond those that each theorem names. -/
import Derived.Test.YtohbdjfabghagaaSx0
import Derived.Test.YtohbdjfabghagaaSxLombardref02Size
import Derived.Test.YtohbdjfabghagaaSxLombardref02Plus
import Derived.Test.YtohbdjfabghagaaSxLombardref02Minus
import Derived.Test.YtohbdjfabghagaaSxLombardref02Big
import Derived.Test.YtohbdjfabghagaaSxLombardref02Small
import Derived.Test.YtohbdjfabghagaaSxLombardref02Div
namespace Go.Proofs.Ytohbdjfabghagaa.S
open Go.RowKit Go.Proofs.YtohbdjfabghagaaW.PrintWords Go.Proofs.YtohbdjfabghagaaW.PrintLast Go.Proofs.YtohbdjfabghagaaW.PrintMore
attribute [local go_sem] max2_int min2_int max_two min_two max_three min_three max_four min_four   -- for this text's walks alone
attribute [local go_sem] Go.Proofs.Ytohbdjfabghagaa.XWalk.cell2
set_option linter.unusedVariables false
set_option linter.unusedSimpArgs false

/-! ### lombardref02_sum: function 63 -/
/-- The sum of two numbers that are told by sign and size. -/
def lombardref02_sum.v (la lb : Bool) (X Y : Nat) : Bool × Nat := if la = lb then (la, (X + Y) % 2 ^ 260) else if Y ≤ X then (la, X - Y) else (lb, Y - X)
theorem lombardref02_sum.norm {P : Program} {md : Region.Mode} {ops : Array Oper} {Q : Exit → Act → World → Prop} {S : World → Prop} {fuel : Nat} {l : Array Bool} {a a' : Act} {w : World} (ha : a = a') (h : wpAnyH P md ops Q S fuel l a' w) : wpAnyH P md ops Q S fuel l a w := ha ▸ h
theorem B.buildLQ {o : Oper} {ρ : Operand → Value} {W : World} (x y : Operand) (ho : o.op = .build 75 #[(0, x), (1, y)]) (l : Bool) (N : Nat) (hx : ρ x = .bool l) (hy : ρ y = .agg (B.cells N)) : (execOp ρ o).run Try.prog W = .ok (.value (.agg (B.big l N))) W := by
  have m : (#[((0 : Nat), x), (1, y)].map fun (i, x) => (i, ρ x)) = #[(0, Value.bool l), (1, Value.agg (B.cells N))] := by simp [hx, hy]
  have r := run_build (P := Try.prog) W 75 #[(0, Value.bool l), (1, Value.agg (B.cells N))] (B.big l N) (B.cellsB l N)
  unfold execOp
  simp only [ho, m, Sem.run_bind, Sem.run_pure, Result.andThen_ok, r]
theorem B.opStoreB {ops : Array Oper} {i : Nat} {o : Oper} {K : Act → World → Prop} {Q : Exit → Act → World → Prop} {a : Act} {w : World} (hi : ops[i]? = some o) (hg : o.guard = none) (x y : Operand) (ho : o.op = .store 75 x y)
    (g N M : Nat) (l l0 : Bool) (hx : a.eval x = .pointer (some ⟨g, 0, none⟩)) (hy : a.eval y = .agg (B.big l N)) (hold : B.HasB w g l0 M) (h : K (a.put o.dst undef) (w.setRow g (B.big l N))) : wpOp Try.prog ops Q i K a w := by
  unfold wpOp
  simp only [hi]
  rw [if_pos (by simp [Region.wanted, hg])]
  exact Or.inl (wp_store_row (P := Try.prog) 75 x y ho g (B.big l N) hx hy 75 (B.big l0 M) hold (B.infoB _ _) (by rw [B.big_size, B.big_size]) (B.plainB _ _) h)
set_option maxRecDepth 100000 in
set_option maxHeartbeats 4000000 in
theorem lombardref02_sum.calls (la lb : Bool) (X Y : Nat) (hA : X < 2 ^ 260) (hB : Y < 2 ^ 260) (w : World) : Calls Try.prog 63 #[.agg (B.big la X), .agg (B.big lb Y)] w fun e w' => e = .returned (.agg (B.big (lombardref02_sum.v la lb X Y).1 (lombardref02_sum.v la lb X Y).2)) ∧ Below w.heap.size w w' := by
  have SZ := Aside0.mk (fun W => lombardref02_size.calls X Y hA hB W)
  have PL0 := fun W => lombardref02_plus.calls X Y W
  obtain ⟨D, hD⟩ : ∃ D : Nat, D = (X + Y) % 2 ^ 260 := ⟨_, rfl⟩
  rw [← hD] at PL0
  have PL := Aside0.mk PL0
  have M1 := Aside0.mk (fun (h : Y ≤ X) W => lombardref02_minus.calls X Y hA h W)
  have M2 := Aside0.mk (fun (h : X ≤ Y) W => lombardref02_minus.calls Y X hB h W)
  have HV0 : lombardref02_sum.v la lb X Y = if la = lb then (la, D) else if Y ≤ X then (la, X - Y) else (lb, Y - X) := by unfold lombardref02_sum.v; rw [← hD]
  have HV := Aside0.mk HV0
  clear hA hB hD HV0 PL0
  generalize lombardref02_sum.v la lb X Y = R at *
  go_enter Try.func63, Try.ntmps63
  go_upto_region 1 with (fail)
  obtain ⟨g, hg⟩ : ∃ g, g = w.heap.size := ⟨_, rfl⟩
  have n1 := (B.HasB.new w la X).alloc (.cells (B.big lb Y) 75) |>.alloc (.cells Try.zeroCells75 75)
  have n2 := (B.HasB.new (w.alloc (.cells (B.big la X) 75)) lb Y).alloc (.cells Try.zeroCells75 75)
  have n3 := B.HasB.new0 ((w.alloc (.cells (B.big la X) 75)).alloc (.cells (B.big lb Y) 75))
  have y := below_alloc (below_alloc (below_alloc (Below.refl w.heap.size w) (.cells (B.big la X) 75)) (.cells (B.big lb Y) 75)) (.cells Try.zeroCells75 75)
  rw [World.size_alloc] at n2 n3
  rw [World.size_alloc] at n3
  rw [← hg] at n1 n2 n3 y ⊢
  have HG := Aside0.mk hg
  generalize ((w.alloc (.cells (B.big la X) 75)).alloc (.cells (B.big lb Y) 75)).alloc (.cells Try.zeroCells75 75) = W1 at *
  have N1 := Aside0.mk n1
  have N2 := Aside0.mk n2
  have N3 := Aside0.mk n3
  have Y1 := Aside0.mk y
  clear n1 n2 n3 y hg
  have c1 := N1.out.cell0
  have c2 := N2.out.cell0
  by_cases ls : la = lb
  · have q1 : (la == lb) = true := by rw [ls]; simp
    have hv := HV.out
    rw [if_pos ls] at hv
    have HV2 := Aside0.mk hv
    clear hv ls
    go_upto_region 2 with (fail)
    have hS0 : B.HasB { W1 with drawn := W1.drawn + 1 } g la X ∧ B.HasB { W1 with drawn := W1.drawn + 1 } (g + 1) lb Y ∧ Below g w { W1 with drawn := W1.drawn + 1 } := ⟨N1.out, N2.out, Y1.out.drew⟩
    have hX : Below W1.heap.size W1 { W1 with drawn := W1.drawn + 1 } := ⟨rfl, rfl, rfl, Nat.le_refl _, fun _ _ => rfl⟩
    refine wp_region_held (S := fun W9 => B.HasB W9 g la X ∧ B.HasB W9 (g + 1) lb Y ∧ Below g w W9) (by kernel_rfl) ?_
    generalize ({ W1 with drawn := W1.drawn + 1 } : World) = W4 at *
    refine wpAnyH_take (i := 0) (v := .pointer (some ⟨g, 0, none⟩)) rfl (by kernel_rfl) (by kernel_rfl) (by kernel_rfl) (fun _ _ _ h => h) (Or.inl ⟨by kernel_rfl, fun W9 hS => by go_simp⟩) hS0 ?_
    refine wpAnyH_take (i := 1) (v := .bool la) rfl (by kernel_rfl) (by kernel_rfl) (by kernel_rfl) (fun _ _ _ h => h) (Or.inl ⟨by kernel_rfl, fun W9 hS => by have c := hS.1.cell0; go_simp⟩) hS0 ?_
    refine wpAnyH_take (i := 2) (v := .pointer (some ⟨g, 1, none⟩)) rfl (by kernel_rfl) (by kernel_rfl) (by kernel_rfl) (fun _ _ _ h => h) (Or.inl ⟨by kernel_rfl, fun W9 hS => by go_simp⟩) hS0 ?_
    refine wpAnyH_take (i := 3) (v := .agg (B.cells X)) rfl (by kernel_rfl) (by kernel_rfl) (by kernel_rfl) (fun _ _ _ h => h) (Or.inl ⟨by kernel_rfl, fun W9 hS => B.loadB (.tmp 12) rfl rfl (hS.1)⟩) hS0 ?_
    refine wpAnyH_take (i := 4) (v := .pointer (some ⟨g + 1, 1, none⟩)) rfl (by kernel_rfl) (by kernel_rfl) (by kernel_rfl) (fun _ _ _ h => h) (Or.inl ⟨by kernel_rfl, fun W9 hS => by go_simp⟩) hS0 ?_
    refine wpAnyH_take (i := 5) (v := .agg (B.cells Y)) rfl (by kernel_rfl) (by kernel_rfl) (by kernel_rfl) (fun _ _ _ h => h) (Or.inl ⟨by kernel_rfl, fun W9 hS => B.loadB (.tmp 14) rfl rfl (hS.2.1)⟩) hS0 ?_
    refine lombardref02_sum.norm (a' := { tmps := #[.agg (B.big la X), .agg (B.big lb Y), .pointer (some ⟨g, 0, none⟩), .pointer (some ⟨g + 1, 0, none⟩), .pointer (some ⟨g + 1 + 1, 0, none⟩), .pointer (some ⟨g, 0, none⟩), .bool la, .pointer (some ⟨g + 1, 0, none⟩), .bool lb, .bool true, .pointer (some ⟨g, 0, none⟩), .bool la, .pointer (some ⟨g, 1, none⟩), .agg (B.cells X), .pointer (some ⟨g + 1, 1, none⟩), .agg (B.cells Y), undef, undef, undef, undef, undef, undef, undef, undef, undef, undef, undef, undef, undef, undef, undef, undef, undef, undef, undef, undef, undef, undef, undef, undef], defers := [] }) (by kernel_rfl) ?_
    refine wpAnyH_all (rs := [6]) (by kernel_rfl) (by simp) ?_
    intro ix hix
    obtain rfl : ix = 6 := by simpa using hix
    clear hix
    refine B.opCall rfl rfl (.agg (B.cells X)) (.agg (B.cells Y)) 69 Try.f69 (.tmp 13) (.tmp 15) _ Try.func69 (by kernel_rfl) rfl rfl rfl rfl ?_
    refine (PL.out _).mono ?_
    rintro e W5 ⟨rfl, hb5⟩
    have hS1 : B.HasB W5 g la X ∧ B.HasB W5 (g + 1) lb Y ∧ Below g w W5 := ⟨hS0.1.below hb5, hS0.2.1.below hb5, hS0.2.2.trans (hb5.mono (Nat.le_of_lt hS0.1.lt))⟩
    replace hX := hX.trans (hb5.mono hX.size)
    refine ⟨_, rfl, hS1, ?_⟩
    clear hS0 hb5
    have hS0 := hS1
    clear hS1
    refine lombardref02_sum.norm (a' := { tmps := #[.agg (B.big la X), .agg (B.big lb Y), .pointer (some ⟨g, 0, none⟩), .pointer (some ⟨g + 1, 0, none⟩), .pointer (some ⟨g + 1 + 1, 0, none⟩), .pointer (some ⟨g, 0, none⟩), .bool la, .pointer (some ⟨g + 1, 0, none⟩), .bool lb, .bool true, .pointer (some ⟨g, 0, none⟩), .bool la, .pointer (some ⟨g, 1, none⟩), .agg (B.cells X), .pointer (some ⟨g + 1, 1, none⟩), .agg (B.cells Y), .agg (B.cells D), undef, undef, undef, undef, undef, undef, undef, undef, undef, undef, undef, undef, undef, undef, undef, undef, undef, undef, undef, undef, undef, undef, undef], defers := [] }) (by kernel_rfl) ?_
    refine wpAnyH_take (i := 7) (v := .agg (B.big la D)) rfl (by kernel_rfl) (by kernel_rfl) (by kernel_rfl) (fun _ _ _ h => h) (Or.inl ⟨by kernel_rfl, fun W9 hS => B.buildLQ (.tmp 11) (.tmp 16) rfl la D rfl rfl⟩) hS0 ?_
    refine lombardref02_sum.norm (a' := { tmps := #[.agg (B.big la X), .agg (B.big lb Y), .pointer (some ⟨g, 0, none⟩), .pointer (some ⟨g + 1, 0, none⟩), .pointer (some ⟨g + 1 + 1, 0, none⟩), .pointer (some ⟨g, 0, none⟩), .bool la, .pointer (some ⟨g + 1, 0, none⟩), .bool lb, .bool true, .pointer (some ⟨g, 0, none⟩), .bool la, .pointer (some ⟨g, 1, none⟩), .agg (B.cells X), .pointer (some ⟨g + 1, 1, none⟩), .agg (B.cells Y), .agg (B.cells D), .agg (B.big la D), undef, undef, undef, undef, undef, undef, undef, undef, undef, undef, undef, undef, undef, undef, undef, undef, undef, undef, undef, undef, undef, undef], defers := [] }) (by kernel_rfl) ?_
    refine wpAnyH_all (rs := [8]) (by kernel_rfl) (by simp) ?_
    intro ix hix
    obtain rfl : ix = 8 := by simpa using hix
    clear hix
    refine B.opStoreB rfl rfl (.tmp 4) (.tmp 17) rfl (g + 1 + 1) D 0 la false rfl rfl (N3.out.below hX) ?_
    refine ⟨⟨hS0.1.setR _ (by omega), hS0.2.1.setR _ (by omega), B.below_row hS0.2.2 (by omega) _⟩, ?_⟩
    refine lombardref02_sum.norm (a' := { tmps := #[.agg (B.big la X), .agg (B.big lb Y), .pointer (some ⟨g, 0, none⟩), .pointer (some ⟨g + 1, 0, none⟩), .pointer (some ⟨g + 1 + 1, 0, none⟩), .pointer (some ⟨g, 0, none⟩), .bool la, .pointer (some ⟨g + 1, 0, none⟩), .bool lb, .bool true, .pointer (some ⟨g, 0, none⟩), .bool la, .pointer (some ⟨g, 1, none⟩), .agg (B.cells X), .pointer (some ⟨g + 1, 1, none⟩), .agg (B.cells Y), .agg (B.cells D), .agg (B.big la D), undef, undef, undef, undef, undef, undef, undef, undef, undef, undef, undef, undef, undef, undef, undef, undef, undef, undef, undef, undef, undef, undef], defers := [] }) (by kernel_rfl) ?_
    refine wpAnyH_done (by kernel_rfl) ?_ _
    have h6 := (N3.out.below hX).row la D
    have y6 := B.below_row hS0.2.2 (k := g + 1 + 1) (by omega) (B.big la D)
    clear hS0 hX
    generalize W5.setRow (g + 1 + 1) (B.big la D) = W6 at *
    rename_i K1 hK1 K2 hK2
    show K2 _ _
    refine hK2 _ _ ?_
    go_wp2
    refine bodyPost_ret (results_cell_row (by rfl) _ _ (g + 1 + 1) 75 (B.big la D) (0, 0) _ (by rfl) h6 Try.underlying75 rfl (B.infoB _ _)) rfl ?_
    exact ⟨by rw [HV2.out], by rw [← HG.out]; exact y6⟩
  · have q1 : (la == lb) = false := by simpa using ls
    have hv := HV.out
    rw [if_neg ls] at hv
    have HV1 := Aside0.mk hv
    clear hv ls
    obtain ⟨r, hr⟩ : ∃ r, r = lombardref02_size.ord X Y := ⟨_, rfl⟩
    have HR := Aside0.mk hr
    have sz := SZ.out
    rw [← hr] at sz
    have SZ2 := Aside0.mk sz
    clear hr sz
    have ARM := Aside0.mk N1.out
    have n1 := N1.out
    have n2 := N2.out
    by_cases le : Y ≤ X
    · have hv := HV1.out
      rw [if_pos le] at hv
      have HV2 := Aside0.mk hv
      clear hv
      have q2 : decide (0 ≤ r) = true := by rw [HR.out]; unfold lombardref02_size.ord; exact decide_eq_true (by split <;> (try split) <;> omega)
      go_upto_region 4 with (first | ((with_reducible refine B.gateOp (.load 73 (.tmp 18)) rfl ?_); refine B.wpLoadB rfl (.tmp 18) rfl g X la rfl n1 ?_) | ((with_reducible refine B.gateOp (.load 73 (.tmp 20)) rfl ?_); refine B.wpLoadB rfl (.tmp 20) rfl (g + 1) Y lb rfl n2 ?_) | (go_at_call 68; (with_reducible refine (SZ2.out _).mono ?_); rintro e W2 ⟨rfl, hb2⟩))
      replace N1 := Aside0.mk (N1.out.below hb2)
      replace N2 := Aside0.mk (N2.out.below hb2)
      replace N3 := Aside0.mk (N3.out.below hb2)
      replace Y1 := Aside0.mk (Y1.out.trans (hb2.mono (Nat.le_of_lt n1.lt)))
      clear n1 n2 hb2 c1 c2 q1 q2 ARM
      have hS0 : B.HasB { W2 with drawn := W2.drawn + 1 } g la X ∧ B.HasB { W2 with drawn := W2.drawn + 1 } (g + 1) lb Y ∧ Below g w { W2 with drawn := W2.drawn + 1 } := ⟨N1.out, N2.out, Y1.out.drew⟩
      have hX : Below W2.heap.size W2 { W2 with drawn := W2.drawn + 1 } := ⟨rfl, rfl, rfl, Nat.le_refl _, fun _ _ => rfl⟩
      refine wp_region_held (S := fun W9 => B.HasB W9 g la X ∧ B.HasB W9 (g + 1) lb Y ∧ Below g w W9) (by kernel_rfl) ?_
      generalize ({ W2 with drawn := W2.drawn + 1 } : World) = W4 at *
      refine wpAnyH_take (i := 0) (v := .pointer (some ⟨g, 0, none⟩)) rfl (by kernel_rfl) (by kernel_rfl) (by kernel_rfl) (fun _ _ _ h => h) (Or.inl ⟨by kernel_rfl, fun W9 hS => by go_simp⟩) hS0 ?_
      refine wpAnyH_take (i := 1) (v := .bool la) rfl (by kernel_rfl) (by kernel_rfl) (by kernel_rfl) (fun _ _ _ h => h) (Or.inl ⟨by kernel_rfl, fun W9 hS => by have c := hS.1.cell0; go_simp⟩) hS0 ?_
      refine wpAnyH_take (i := 2) (v := .pointer (some ⟨g, 1, none⟩)) rfl (by kernel_rfl) (by kernel_rfl) (by kernel_rfl) (fun _ _ _ h => h) (Or.inl ⟨by kernel_rfl, fun W9 hS => by go_simp⟩) hS0 ?_
      refine wpAnyH_take (i := 3) (v := .agg (B.cells X)) rfl (by kernel_rfl) (by kernel_rfl) (by kernel_rfl) (fun _ _ _ h => h) (Or.inl ⟨by kernel_rfl, fun W9 hS => B.loadB (.tmp 26) rfl rfl (hS.1)⟩) hS0 ?_
      refine wpAnyH_take (i := 4) (v := .pointer (some ⟨g + 1, 1, none⟩)) rfl (by kernel_rfl) (by kernel_rfl) (by kernel_rfl) (fun _ _ _ h => h) (Or.inl ⟨by kernel_rfl, fun W9 hS => by go_simp⟩) hS0 ?_
      refine wpAnyH_take (i := 5) (v := .agg (B.cells Y)) rfl (by kernel_rfl) (by kernel_rfl) (by kernel_rfl) (fun _ _ _ h => h) (Or.inl ⟨by kernel_rfl, fun W9 hS => B.loadB (.tmp 28) rfl rfl (hS.2.1)⟩) hS0 ?_
      refine lombardref02_sum.norm (a' := { tmps := #[.agg (B.big la X), .agg (B.big lb Y), .pointer (some ⟨g, 0, none⟩), .pointer (some ⟨g + 1, 0, none⟩), .pointer (some ⟨g + 1 + 1, 0, none⟩), .pointer (some ⟨g, 0, none⟩), .bool la, .pointer (some ⟨g + 1, 0, none⟩), .bool lb, .bool false, undef, undef, undef, undef, undef, undef, undef, undef, .pointer (some ⟨g, 1, none⟩), .agg (B.cells X), .pointer (some ⟨g + 1, 1, none⟩), .agg (B.cells Y), .int .i64 r, .bool true, .pointer (some ⟨g, 0, none⟩), .bool la, .pointer (some ⟨g, 1, none⟩), .agg (B.cells X), .pointer (some ⟨g + 1, 1, none⟩), .agg (B.cells Y), undef, undef, undef, undef, undef, undef, undef, undef, undef, undef], defers := [] }) (by kernel_rfl) ?_
      refine wpAnyH_all (rs := [6]) (by kernel_rfl) (by simp) ?_
      intro ix hix
      obtain rfl : ix = 6 := by simpa using hix
      clear hix
      refine B.opCall rfl rfl (.agg (B.cells X)) (.agg (B.cells Y)) 73 Try.f73 (.tmp 27) (.tmp 29) _ Try.func73 (by kernel_rfl) rfl rfl rfl rfl ?_
      refine (M1.out le _).mono ?_
      rintro e W5 ⟨rfl, hb5⟩
      have hS1 : B.HasB W5 g la X ∧ B.HasB W5 (g + 1) lb Y ∧ Below g w W5 := ⟨hS0.1.below hb5, hS0.2.1.below hb5, hS0.2.2.trans (hb5.mono (Nat.le_of_lt hS0.1.lt))⟩
      replace hX := hX.trans (hb5.mono hX.size)
      refine ⟨_, rfl, hS1, ?_⟩
      clear hS0 hb5
      have hS0 := hS1
      clear hS1
      refine lombardref02_sum.norm (a' := { tmps := #[.agg (B.big la X), .agg (B.big lb Y), .pointer (some ⟨g, 0, none⟩), .pointer (some ⟨g + 1, 0, none⟩), .pointer (some ⟨g + 1 + 1, 0, none⟩), .pointer (some ⟨g, 0, none⟩), .bool la, .pointer (some ⟨g + 1, 0, none⟩), .bool lb, .bool false, undef, undef, undef, undef, undef, undef, undef, undef, .pointer (some ⟨g, 1, none⟩), .agg (B.cells X), .pointer (some ⟨g + 1, 1, none⟩), .agg (B.cells Y), .int .i64 r, .bool true, .pointer (some ⟨g, 0, none⟩), .bool la, .pointer (some ⟨g, 1, none⟩), .agg (B.cells X), .pointer (some ⟨g + 1, 1, none⟩), .agg (B.cells Y), .agg (B.cells (X - Y)), undef, undef, undef, undef, undef, undef, undef, undef, undef], defers := [] }) (by kernel_rfl) ?_
      refine wpAnyH_take (i := 7) (v := .agg (B.big la (X - Y))) rfl (by kernel_rfl) (by kernel_rfl) (by kernel_rfl) (fun _ _ _ h => h) (Or.inl ⟨by kernel_rfl, fun W9 hS => B.buildLQ (.tmp 25) (.tmp 30) rfl la (X - Y) rfl rfl⟩) hS0 ?_
      refine lombardref02_sum.norm (a' := { tmps := #[.agg (B.big la X), .agg (B.big lb Y), .pointer (some ⟨g, 0, none⟩), .pointer (some ⟨g + 1, 0, none⟩), .pointer (some ⟨g + 1 + 1, 0, none⟩), .pointer (some ⟨g, 0, none⟩), .bool la, .pointer (some ⟨g + 1, 0, none⟩), .bool lb, .bool false, undef, undef, undef, undef, undef, undef, undef, undef, .pointer (some ⟨g, 1, none⟩), .agg (B.cells X), .pointer (some ⟨g + 1, 1, none⟩), .agg (B.cells Y), .int .i64 r, .bool true, .pointer (some ⟨g, 0, none⟩), .bool la, .pointer (some ⟨g, 1, none⟩), .agg (B.cells X), .pointer (some ⟨g + 1, 1, none⟩), .agg (B.cells Y), .agg (B.cells (X - Y)), .agg (B.big la (X - Y)), undef, undef, undef, undef, undef, undef, undef, undef], defers := [] }) (by kernel_rfl) ?_
      refine wpAnyH_all (rs := [8]) (by kernel_rfl) (by simp) ?_
      intro ix hix
      obtain rfl : ix = 8 := by simpa using hix
      clear hix
      refine B.opStoreB rfl rfl (.tmp 4) (.tmp 31) rfl (g + 1 + 1) (X - Y) 0 la false rfl rfl (N3.out.below hX) ?_
      refine ⟨⟨hS0.1.setR _ (by omega), hS0.2.1.setR _ (by omega), B.below_row hS0.2.2 (by omega) _⟩, ?_⟩
      refine lombardref02_sum.norm (a' := { tmps := #[.agg (B.big la X), .agg (B.big lb Y), .pointer (some ⟨g, 0, none⟩), .pointer (some ⟨g + 1, 0, none⟩), .pointer (some ⟨g + 1 + 1, 0, none⟩), .pointer (some ⟨g, 0, none⟩), .bool la, .pointer (some ⟨g + 1, 0, none⟩), .bool lb, .bool false, undef, undef, undef, undef, undef, undef, undef, undef, .pointer (some ⟨g, 1, none⟩), .agg (B.cells X), .pointer (some ⟨g + 1, 1, none⟩), .agg (B.cells Y), .int .i64 r, .bool true, .pointer (some ⟨g, 0, none⟩), .bool la, .pointer (some ⟨g, 1, none⟩), .agg (B.cells X), .pointer (some ⟨g + 1, 1, none⟩), .agg (B.cells Y), .agg (B.cells (X - Y)), .agg (B.big la (X - Y)), undef, undef, undef, undef, undef, undef, undef, undef], defers := [] }) (by kernel_rfl) ?_
      refine wpAnyH_done (by kernel_rfl) ?_ _
      have h6 := (N3.out.below hX).row la (X - Y)
      have y6 := B.below_row hS0.2.2 (k := g + 1 + 1) (by omega) (B.big la (X - Y))
      clear hS0 hX
      generalize W5.setRow (g + 1 + 1) (B.big la (X - Y)) = W6 at *
      rename_i K1 hK1 K2 hK2
      show K2 _ _
      refine hK2 _ _ ?_
      go_wp2
      refine bodyPost_ret (results_cell_row (by rfl) _ _ (g + 1 + 1) 75 (B.big la (X - Y)) (0, 0) _ (by rfl) h6 Try.underlying75 rfl (B.infoB _ _)) rfl ?_
      exact ⟨by rw [HV2.out], by rw [← HG.out]; exact y6⟩
    · have hv := HV1.out
      rw [if_neg le] at hv
      have HV2 := Aside0.mk hv
      clear hv
      have q2 : decide (0 ≤ r) = false := by rw [HR.out]; unfold lombardref02_size.ord; exact decide_eq_false (by rw [if_pos (by omega)]; omega)
      have le2 : X ≤ Y := by omega
      go_upto_region 5 with (first | ((with_reducible refine B.gateOp (.load 73 (.tmp 18)) rfl ?_); refine B.wpLoadB rfl (.tmp 18) rfl g X la rfl n1 ?_) | ((with_reducible refine B.gateOp (.load 73 (.tmp 20)) rfl ?_); refine B.wpLoadB rfl (.tmp 20) rfl (g + 1) Y lb rfl n2 ?_) | (go_at_call 68; (with_reducible refine (SZ2.out _).mono ?_); rintro e W2 ⟨rfl, hb2⟩))
      replace N1 := Aside0.mk (N1.out.below hb2)
      replace N2 := Aside0.mk (N2.out.below hb2)
      replace N3 := Aside0.mk (N3.out.below hb2)
      replace Y1 := Aside0.mk (Y1.out.trans (hb2.mono (Nat.le_of_lt n1.lt)))
      clear n1 n2 hb2 c1 c2 q1 q2 ARM
      have hS0 : B.HasB { W2 with drawn := W2.drawn + 1 } g la X ∧ B.HasB { W2 with drawn := W2.drawn + 1 } (g + 1) lb Y ∧ Below g w { W2 with drawn := W2.drawn + 1 } := ⟨N1.out, N2.out, Y1.out.drew⟩
      have hX : Below W2.heap.size W2 { W2 with drawn := W2.drawn + 1 } := ⟨rfl, rfl, rfl, Nat.le_refl _, fun _ _ => rfl⟩
      refine wp_region_held (S := fun W9 => B.HasB W9 g la X ∧ B.HasB W9 (g + 1) lb Y ∧ Below g w W9) (by kernel_rfl) ?_
      generalize ({ W2 with drawn := W2.drawn + 1 } : World) = W4 at *
      refine wpAnyH_take (i := 0) (v := .pointer (some ⟨g + 1, 0, none⟩)) rfl (by kernel_rfl) (by kernel_rfl) (by kernel_rfl) (fun _ _ _ h => h) (Or.inl ⟨by kernel_rfl, fun W9 hS => by go_simp⟩) hS0 ?_
      refine wpAnyH_take (i := 1) (v := .bool lb) rfl (by kernel_rfl) (by kernel_rfl) (by kernel_rfl) (fun _ _ _ h => h) (Or.inl ⟨by kernel_rfl, fun W9 hS => by have c := hS.2.1.cell0; go_simp⟩) hS0 ?_
      refine wpAnyH_take (i := 2) (v := .pointer (some ⟨g + 1, 1, none⟩)) rfl (by kernel_rfl) (by kernel_rfl) (by kernel_rfl) (fun _ _ _ h => h) (Or.inl ⟨by kernel_rfl, fun W9 hS => by go_simp⟩) hS0 ?_
      refine wpAnyH_take (i := 3) (v := .agg (B.cells Y)) rfl (by kernel_rfl) (by kernel_rfl) (by kernel_rfl) (fun _ _ _ h => h) (Or.inl ⟨by kernel_rfl, fun W9 hS => B.loadB (.tmp 34) rfl rfl (hS.2.1)⟩) hS0 ?_
      refine wpAnyH_take (i := 4) (v := .pointer (some ⟨g, 1, none⟩)) rfl (by kernel_rfl) (by kernel_rfl) (by kernel_rfl) (fun _ _ _ h => h) (Or.inl ⟨by kernel_rfl, fun W9 hS => by go_simp⟩) hS0 ?_
      refine wpAnyH_take (i := 5) (v := .agg (B.cells X)) rfl (by kernel_rfl) (by kernel_rfl) (by kernel_rfl) (fun _ _ _ h => h) (Or.inl ⟨by kernel_rfl, fun W9 hS => B.loadB (.tmp 36) rfl rfl (hS.1)⟩) hS0 ?_
      refine lombardref02_sum.norm (a' := { tmps := #[.agg (B.big la X), .agg (B.big lb Y), .pointer (some ⟨g, 0, none⟩), .pointer (some ⟨g + 1, 0, none⟩), .pointer (some ⟨g + 1 + 1, 0, none⟩), .pointer (some ⟨g, 0, none⟩), .bool la, .pointer (some ⟨g + 1, 0, none⟩), .bool lb, .bool false, undef, undef, undef, undef, undef, undef, undef, undef, .pointer (some ⟨g, 1, none⟩), .agg (B.cells X), .pointer (some ⟨g + 1, 1, none⟩), .agg (B.cells Y), .int .i64 r, .bool false, undef, undef, undef, undef, undef, undef, undef, undef, .pointer (some ⟨g + 1, 0, none⟩), .bool lb, .pointer (some ⟨g + 1, 1, none⟩), .agg (B.cells Y), .pointer (some ⟨g, 1, none⟩), .agg (B.cells X), undef, undef], defers := [] }) (by kernel_rfl) ?_
      refine wpAnyH_all (rs := [6]) (by kernel_rfl) (by simp) ?_
      intro ix hix
      obtain rfl : ix = 6 := by simpa using hix
      clear hix
      refine B.opCall rfl rfl (.agg (B.cells Y)) (.agg (B.cells X)) 73 Try.f73 (.tmp 35) (.tmp 37) _ Try.func73 (by kernel_rfl) rfl rfl rfl rfl ?_
      refine (M2.out le2 _).mono ?_
      rintro e W5 ⟨rfl, hb5⟩
      have hS1 : B.HasB W5 g la X ∧ B.HasB W5 (g + 1) lb Y ∧ Below g w W5 := ⟨hS0.1.below hb5, hS0.2.1.below hb5, hS0.2.2.trans (hb5.mono (Nat.le_of_lt hS0.1.lt))⟩
      replace hX := hX.trans (hb5.mono hX.size)
      refine ⟨_, rfl, hS1, ?_⟩
      clear hS0 hb5
      have hS0 := hS1
      clear hS1
      refine lombardref02_sum.norm (a' := { tmps := #[.agg (B.big la X), .agg (B.big lb Y), .pointer (some ⟨g, 0, none⟩), .pointer (some ⟨g + 1, 0, none⟩), .pointer (some ⟨g + 1 + 1, 0, none⟩), .pointer (some ⟨g, 0, none⟩), .bool la, .pointer (some ⟨g + 1, 0, none⟩), .bool lb, .bool false, undef, undef, undef, undef, undef, undef, undef, undef, .pointer (some ⟨g, 1, none⟩), .agg (B.cells X), .pointer (some ⟨g + 1, 1, none⟩), .agg (B.cells Y), .int .i64 r, .bool false, undef, undef, undef, undef, undef, undef, undef, undef, .pointer (some ⟨g + 1, 0, none⟩), .bool lb, .pointer (some ⟨g + 1, 1, none⟩), .agg (B.cells Y), .pointer (some ⟨g, 1, none⟩), .agg (B.cells X), .agg (B.cells (Y - X)), undef], defers := [] }) (by kernel_rfl) ?_
      refine wpAnyH_take (i := 7) (v := .agg (B.big lb (Y - X))) rfl (by kernel_rfl) (by kernel_rfl) (by kernel_rfl) (fun _ _ _ h => h) (Or.inl ⟨by kernel_rfl, fun W9 hS => B.buildLQ (.tmp 33) (.tmp 38) rfl lb (Y - X) rfl rfl⟩) hS0 ?_
      refine lombardref02_sum.norm (a' := { tmps := #[.agg (B.big la X), .agg (B.big lb Y), .pointer (some ⟨g, 0, none⟩), .pointer (some ⟨g + 1, 0, none⟩), .pointer (some ⟨g + 1 + 1, 0, none⟩), .pointer (some ⟨g, 0, none⟩), .bool la, .pointer (some ⟨g + 1, 0, none⟩), .bool lb, .bool false, undef, undef, undef, undef, undef, undef, undef, undef, .pointer (some ⟨g, 1, none⟩), .agg (B.cells X), .pointer (some ⟨g + 1, 1, none⟩), .agg (B.cells Y), .int .i64 r, .bool false, undef, undef, undef, undef, undef, undef, undef, undef, .pointer (some ⟨g + 1, 0, none⟩), .bool lb, .pointer (some ⟨g + 1, 1, none⟩), .agg (B.cells Y), .pointer (some ⟨g, 1, none⟩), .agg (B.cells X), .agg (B.cells (Y - X)), .agg (B.big lb (Y - X))], defers := [] }) (by kernel_rfl) ?_
      refine wpAnyH_all (rs := [8]) (by kernel_rfl) (by simp) ?_
      intro ix hix
      obtain rfl : ix = 8 := by simpa using hix
      clear hix
      refine B.opStoreB rfl rfl (.tmp 4) (.tmp 39) rfl (g + 1 + 1) (Y - X) 0 lb false rfl rfl (N3.out.below hX) ?_
      refine ⟨⟨hS0.1.setR _ (by omega), hS0.2.1.setR _ (by omega), B.below_row hS0.2.2 (by omega) _⟩, ?_⟩
      refine lombardref02_sum.norm (a' := { tmps := #[.agg (B.big la X), .agg (B.big lb Y), .pointer (some ⟨g, 0, none⟩), .pointer (some ⟨g + 1, 0, none⟩), .pointer (some ⟨g + 1 + 1, 0, none⟩), .pointer (some ⟨g, 0, none⟩), .bool la, .pointer (some ⟨g + 1, 0, none⟩), .bool lb, .bool false, undef, undef, undef, undef, undef, undef, undef, undef, .pointer (some ⟨g, 1, none⟩), .agg (B.cells X), .pointer (some ⟨g + 1, 1, none⟩), .agg (B.cells Y), .int .i64 r, .bool false, undef, undef, undef, undef, undef, undef, undef, undef, .pointer (some ⟨g + 1, 0, none⟩), .bool lb, .pointer (some ⟨g + 1, 1, none⟩), .agg (B.cells Y), .pointer (some ⟨g, 1, none⟩), .agg (B.cells X), .agg (B.cells (Y - X)), .agg (B.big lb (Y - X))], defers := [] }) (by kernel_rfl) ?_
      refine wpAnyH_done (by kernel_rfl) ?_ _
      have h6 := (N3.out.below hX).row lb (Y - X)
      have y6 := B.below_row hS0.2.2 (k := g + 1 + 1) (by omega) (B.big lb (Y - X))
      clear hS0 hX
      generalize W5.setRow (g + 1 + 1) (B.big lb (Y - X)) = W6 at *
      rename_i K2 hK2
      show K2 _ _
      refine hK2 _ _ ?_
      go_wp2
      refine bodyPost_ret (results_cell_row (by rfl) _ _ (g + 1 + 1) 75 (B.big lb (Y - X)) (0, 0) _ (by rfl) h6 Try.underlying75 rfl (B.infoB _ _)) rfl ?_
      exact ⟨by rw [HV2.out], by rw [← HG.out]; exact y6⟩


end Go.Proofs.Ytohbdjfabghagaa.S
