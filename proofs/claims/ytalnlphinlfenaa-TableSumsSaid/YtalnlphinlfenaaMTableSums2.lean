/- Texts of the statement TableSumsSaid, laid together. Conditions: none beyond those that each theorem names. -/
import Derived.Test.YtalnlphinlfenaaSx0
import Derived.Test.YtalnlphinlfenaaSxLombardref02Size
import Derived.Test.YtalnlphinlfenaaSxLombardref02Big
import Derived.Test.YtalnlphinlfenaaSxLombardref02Small
import Derived.Test.YtalnlphinlfenaaSxLombardref02Quo
section
namespace Go.Proofs.Ytalnlphinlfenaa.S
open Go.RowKit Go.Proofs.YtalnlphinlfenaaW.PrintWords Go.Proofs.YtalnlphinlfenaaW.PrintLast Go.Proofs.YtalnlphinlfenaaW.PrintMore
attribute [local go_sem] max2_int min2_int max_two min_two max_three min_three max_four min_four   -- for this text's walks alone
attribute [local go_sem] Go.Proofs.Ytalnlphinlfenaa.XWalk.cell2
set_option linter.unusedVariables false
set_option linter.unusedSimpArgs false

/-! ### lombardref01_Add: function 52 -/
def lombardref01_Add.f (a0 : Int) (a1 : Int) : Option (Int × Int) := if a1 > 0 then (if a0 > (wrap64 (9223372036854775807 - a1)) then (some (0, 3)) else (if a1 < 0 then (if a0 < (wrap64 ((-9223372036854775808) - a1)) then (some (0, 3)) else (some (wrap64 (a0 + a1), 0))) else (some (wrap64 (a0 + a1), 0)))) else (if a1 < 0 then (if a0 < (wrap64 ((-9223372036854775808) - a1)) then (some (0, 3)) else (some (wrap64 (a0 + a1), 0))) else (some (wrap64 (a0 + a1), 0)))
set_option maxHeartbeats 8000000 in
set_option maxRecDepth 100000 in
theorem lombardref01_Add.calls (a0 : Int) (a1 : Int) (r1 : Int) (r2 : Int) (w : World) (h : lombardref01_Add.f a0 a1 = some (r1, r2)) :
    Calls Try.prog 52 #[.int .i64 a0, .int .i64 a1] w fun e w' => e = .returned (.tuple #[.int .i64 r1, .int .i64 r2]) ∧ Drawn0 w w' := by
  have H : (if a1 > 0 then (if a0 > (wrap64 (9223372036854775807 - a1)) then (some (0, 3)) else (if a1 < 0 then (if a0 < (wrap64 ((-9223372036854775808) - a1)) then (some (0, 3)) else (some (wrap64 (a0 + a1), 0))) else (some (wrap64 (a0 + a1), 0)))) else (if a1 < 0 then (if a0 < (wrap64 ((-9223372036854775808) - a1)) then (some (0, 3)) else (some (wrap64 (a0 + a1), 0))) else (some (wrap64 (a0 + a1), 0)))) = some (r1, r2) := h
  clear h
  by_cases c3 : a1 > 0
  · rw [if_pos c3] at H
    have c3b0 : decide (0 < a1) = true := decide_eq_true c3
    clear c3
    by_cases c4 : a0 > (wrap64 (9223372036854775807 - a1))
    · rw [if_pos c4] at H
      have c4b0 : decide ((wrap64 (9223372036854775807 - a1)) < a0) = true := decide_eq_true c4
      clear c4
      simp only [Option.some.injEq, Prod.mk.injEq] at H
      obtain ⟨rfl, rfl⟩ := H
      go_enter Try.func52, Try.ntmps52
      go_wp2
      go_ret2
      exact ⟨by first | rfl | (simp; done) | (simp [*]; done), by repeat (first | exact Drawn0.refl _ | apply Drawn0.step)⟩
    · rw [if_neg c4] at H
      have c4b0 : decide ((wrap64 (9223372036854775807 - a1)) < a0) = false := decide_eq_false c4
      clear c4
      by_cases c5 : a1 < 0
      · rw [if_pos c5] at H
        have c5b0 : decide (a1 < 0) = true := decide_eq_true c5
        clear c5
        by_cases c6 : a0 < (wrap64 ((-9223372036854775808) - a1))
        · rw [if_pos c6] at H
          have c6b0 : decide (a0 < (wrap64 ((-9223372036854775808) - a1))) = true := decide_eq_true c6
          clear c6
          simp only [Option.some.injEq, Prod.mk.injEq] at H
          obtain ⟨rfl, rfl⟩ := H
          go_enter Try.func52, Try.ntmps52
          go_wp2
          go_ret2
          exact ⟨by first | rfl | (simp; done) | (simp [*]; done), by repeat (first | exact Drawn0.refl _ | apply Drawn0.step)⟩
        · rw [if_neg c6] at H
          have c6b0 : decide (a0 < (wrap64 ((-9223372036854775808) - a1))) = false := decide_eq_false c6
          clear c6
          simp only [Option.some.injEq, Prod.mk.injEq] at H
          obtain ⟨rfl, rfl⟩ := H
          go_enter Try.func52, Try.ntmps52
          go_wp2
          go_ret2
          exact ⟨by first | rfl | (simp; done) | (simp [*]; done), by repeat (first | exact Drawn0.refl _ | apply Drawn0.step)⟩
      · rw [if_neg c5] at H
        have c5b0 : decide (a1 < 0) = false := decide_eq_false c5
        clear c5
        simp only [Option.some.injEq, Prod.mk.injEq] at H
        obtain ⟨rfl, rfl⟩ := H
        go_enter Try.func52, Try.ntmps52
        go_wp2
        go_ret2
        exact ⟨by first | rfl | (simp; done) | (simp [*]; done), by repeat (first | exact Drawn0.refl _ | apply Drawn0.step)⟩
  · rw [if_neg c3] at H
    have c3b0 : decide (0 < a1) = false := decide_eq_false c3
    clear c3
    by_cases c7 : a1 < 0
    · rw [if_pos c7] at H
      have c7b0 : decide (a1 < 0) = true := decide_eq_true c7
      clear c7
      by_cases c8 : a0 < (wrap64 ((-9223372036854775808) - a1))
      · rw [if_pos c8] at H
        have c8b0 : decide (a0 < (wrap64 ((-9223372036854775808) - a1))) = true := decide_eq_true c8
        clear c8
        simp only [Option.some.injEq, Prod.mk.injEq] at H
        obtain ⟨rfl, rfl⟩ := H
        go_enter Try.func52, Try.ntmps52
        go_wp2
        go_ret2
        exact ⟨by first | rfl | (simp; done) | (simp [*]; done), by repeat (first | exact Drawn0.refl _ | apply Drawn0.step)⟩
      · rw [if_neg c8] at H
        have c8b0 : decide (a0 < (wrap64 ((-9223372036854775808) - a1))) = false := decide_eq_false c8
        clear c8
        simp only [Option.some.injEq, Prod.mk.injEq] at H
        obtain ⟨rfl, rfl⟩ := H
        go_enter Try.func52, Try.ntmps52
        go_wp2
        go_ret2
        exact ⟨by first | rfl | (simp; done) | (simp [*]; done), by repeat (first | exact Drawn0.refl _ | apply Drawn0.step)⟩
    · rw [if_neg c7] at H
      have c7b0 : decide (a1 < 0) = false := decide_eq_false c7
      clear c7
      simp only [Option.some.injEq, Prod.mk.injEq] at H
      obtain ⟨rfl, rfl⟩ := H
      go_enter Try.func52, Try.ntmps52
      go_wp2
      go_ret2
      exact ⟨by first | rfl | (simp; done) | (simp [*]; done), by repeat (first | exact Drawn0.refl _ | apply Drawn0.step)⟩

end Go.Proofs.Ytalnlphinlfenaa.S
end

section
namespace Go.Proofs.Ytalnlphinlfenaa.S
open Go.RowKit Go.Proofs.YtalnlphinlfenaaW.PrintWords Go.Proofs.YtalnlphinlfenaaW.PrintLast Go.Proofs.YtalnlphinlfenaaW.PrintMore
attribute [local go_sem] max2_int min2_int max_two min_two max_three min_three max_four min_four   -- for this text's walks alone
attribute [local go_sem] Go.Proofs.Ytalnlphinlfenaa.XWalk.cell2
set_option linter.unusedVariables false
set_option linter.unusedSimpArgs false

/-! ### lombardref03_May: function 34 -/
def lombardref03_May.f (a0 : Int) : Option (Bool) := if a0 ≥ (-990000000000) then (some (decide (a0 ≤ 10000000000000))) else (some false)
set_option maxHeartbeats 8000000 in
set_option maxRecDepth 100000 in
theorem lombardref03_May.calls (a0 : Int) (r : Bool) (w : World) (h : lombardref03_May.f a0 = some r) :
    Calls Try.prog 34 #[.int .i64 a0] w fun e w' => e = .returned (.bool r) ∧ Drawn0 w w' := by
  have H : (if a0 ≥ (-990000000000) then (some (decide (a0 ≤ 10000000000000))) else (some false)) = some r := h
  clear h
  by_cases c2 : a0 ≥ (-990000000000)
  · rw [if_pos c2] at H
    have c2b0 : decide ((-990000000000) ≤ a0) = true := decide_eq_true c2
    clear c2
    obtain rfl := Option.some.inj H
    go_enter Try.func34, Try.ntmps34
    go_wp2
    go_ret
    exact ⟨by first | rfl | (simp; done) | (simp [*]; done), by repeat (first | exact Drawn0.refl _ | apply Drawn0.step)⟩
  · rw [if_neg c2] at H
    have c2b0 : decide ((-990000000000) ≤ a0) = false := decide_eq_false c2
    clear c2
    obtain rfl := Option.some.inj H
    go_enter Try.func34, Try.ntmps34
    go_wp2
    go_ret
    exact ⟨by first | rfl | (simp; done) | (simp [*]; done), by repeat (first | exact Drawn0.refl _ | apply Drawn0.step)⟩

end Go.Proofs.Ytalnlphinlfenaa.S
end

section
namespace Go.Proofs.Ytalnlphinlfenaa.S
open Go.RowKit Go.Proofs.YtalnlphinlfenaaW.PrintWords Go.Proofs.YtalnlphinlfenaaW.PrintLast Go.Proofs.YtalnlphinlfenaaW.PrintMore
attribute [local go_sem] max2_int min2_int max_two min_two max_three min_three max_four min_four   -- for this text's walks alone
attribute [local go_sem] Go.Proofs.Ytalnlphinlfenaa.XWalk.cell2
set_option linter.unusedVariables false
set_option linter.unusedSimpArgs false

/-! ### lombardref02_Of: function 75 -/
def lombardref02_Of.f (a0 : Int) : Option (Int × Int) := if a0 < 0 then (some ((-1), IntKind.u64.wrap (a0))) else (some (0, IntKind.u64.wrap (a0)))
set_option maxHeartbeats 8000000 in
set_option maxRecDepth 100000 in
theorem lombardref02_Of.calls (a0 : Int) (r1 : Int) (r2 : Int) (w : World) (h : lombardref02_Of.f a0 = some (r1, r2)) :
    Calls Try.prog 75 #[.int .i64 a0] w fun e w' => e = .returned (.agg #[.int .i64 r1, .int .u64 r2]) ∧ Below w.heap.size w w' := by
  have hu111 := Try.underlying111
  have HB := Aside0.mk (Below.refl w.heap.size w)
  have H : (if a0 < 0 then (some ((-1), IntKind.u64.wrap (a0))) else (some (0, IntKind.u64.wrap (a0)))) = some (r1, r2) := h
  clear h
  by_cases c2 : a0 < 0
  · rw [if_pos c2] at H
    have c2b0 : decide (a0 < 0) = true := decide_eq_true c2
    clear c2
    simp only [Option.some.injEq, Prod.mk.injEq] at H
    obtain ⟨rfl, rfl⟩ := H
    go_enter Try.func75, Try.ntmps75
    go_wp2_with (first | ((with_reducible refine gate_dst (N := 2) rfl ?_); refine box_event ?hg (N := 2) ?hd (cs := #[.int .i64 0, .int .u64 0]) (t := 111) ?hr ?_; (case hd => rfl); (case hg => rfl); (case hr => first | (go_simp; done) | (go_simp; rfl)); intro gb216 hg w3 hbox hb; have n0_ := Aside0.mk (below_step (by repeat (first | (with_reducible first | exact HB.out | apply below_alloc | apply pw_below_drewN | apply below_drew1) | exact HB.out)) hb); have n1_ := Aside0.mk (hbox); have n2_ := Aside0.mk ((by rw [hg]; exact (below_size (by repeat (first | (with_reducible first | exact HB.out | apply below_alloc | apply pw_below_drewN | apply below_drew1) | exact HB.out))) : w.heap.size ≤ gb216)); have n3_ := Aside0.mk ((by rw [hg]; exact (below_size (by repeat (first | (with_reducible first | exact HB.out | apply below_alloc | apply pw_below_drewN | apply below_drew1) | exact HB.out))) : w.heap.size ≤ gb216)); clear HB; have HB := n0_; have BK216 := n1_; have GW216 := n2_; have GE216 := n3_; clear n0_ n1_ n2_ n3_; clear hb hbox hg; have hcz4_0 : w3.cell? ⟨gb216, 0, none⟩ = some (.int .i64 0) := (blk_cell BK216.out 0).trans rfl; have hcz4_1 : w3.cell? ⟨gb216, 1, none⟩ = some (.int .u64 0) := (blk_cell BK216.out 1).trans rfl; have hfz4_0 := blk_frozen BK216.out 0; have hfz4_1 := blk_frozen BK216.out 1))
    refine bodyPost_ret (results_cell_row rfl _ _ gb216 111 #[.int .i64 (-1), .int .u64 (IntKind.u64.wrap (a0))] (0, 0) _ rfl (by (with_reducible repeat (first | refine blk_drewN ?_ _ | refine blk_drew ?_ | refine blk_alloc ?_ _)); refine blk_put (cs := #[.int .i64 (-1), .int .u64 0]) ?_ 1 _ rfl; (with_reducible repeat (first | refine blk_drewN ?_ _ | refine blk_drew ?_ | refine blk_alloc ?_ _)); refine blk_put (cs := #[.int .i64 0, .int .u64 0]) ?_ 0 _ rfl; (with_reducible repeat (first | refine blk_drewN ?_ _ | refine blk_drew ?_ | refine blk_alloc ?_ _)); exact BK216.out) Try.underlying111 rfl (by kernel_rfl)) rfl ?_
    exact ⟨by first | rfl | (simp [errW_none, errW_some] <;> rfl) | (simp [*, errW_none, errW_some] <;> rfl), by repeat (first | (with_reducible first | exact HB.out | apply below_alloc | apply pw_below_drewN | apply below_drew1 | refine below_set ?_ GE216.out) | exact HB.out)⟩
  · rw [if_neg c2] at H
    have c2b0 : decide (a0 < 0) = false := decide_eq_false c2
    clear c2
    simp only [Option.some.injEq, Prod.mk.injEq] at H
    obtain ⟨rfl, rfl⟩ := H
    go_enter Try.func75, Try.ntmps75
    go_wp2_with (first | ((with_reducible refine gate_dst (N := 2) rfl ?_); refine box_event ?hg (N := 2) ?hd (cs := #[.int .i64 0, .int .u64 0]) (t := 111) ?hr ?_; (case hd => rfl); (case hg => rfl); (case hr => first | (go_simp; done) | (go_simp; rfl)); intro gb216 hg w5 hbox hb; have n0_ := Aside0.mk (below_step (by repeat (first | (with_reducible first | exact HB.out | apply below_alloc | apply pw_below_drewN | apply below_drew1) | exact HB.out)) hb); have n1_ := Aside0.mk (hbox); have n2_ := Aside0.mk ((by rw [hg]; exact (below_size (by repeat (first | (with_reducible first | exact HB.out | apply below_alloc | apply pw_below_drewN | apply below_drew1) | exact HB.out))) : w.heap.size ≤ gb216)); have n3_ := Aside0.mk ((by rw [hg]; exact (below_size (by repeat (first | (with_reducible first | exact HB.out | apply below_alloc | apply pw_below_drewN | apply below_drew1) | exact HB.out))) : w.heap.size ≤ gb216)); clear HB; have HB := n0_; have BK216 := n1_; have GW216 := n2_; have GE216 := n3_; clear n0_ n1_ n2_ n3_; clear hb hbox hg; have hcz6_0 : w5.cell? ⟨gb216, 0, none⟩ = some (.int .i64 0) := (blk_cell BK216.out 0).trans rfl; have hcz6_1 : w5.cell? ⟨gb216, 1, none⟩ = some (.int .u64 0) := (blk_cell BK216.out 1).trans rfl; have hfz6_0 := blk_frozen BK216.out 0; have hfz6_1 := blk_frozen BK216.out 1))
    refine bodyPost_ret (results_cell_row rfl _ _ gb216 111 #[.int .i64 0, .int .u64 (IntKind.u64.wrap (a0))] (0, 0) _ rfl (by (with_reducible repeat (first | refine blk_drewN ?_ _ | refine blk_drew ?_ | refine blk_alloc ?_ _)); refine blk_put (cs := #[.int .i64 0, .int .u64 0]) ?_ 1 _ rfl; (with_reducible repeat (first | refine blk_drewN ?_ _ | refine blk_drew ?_ | refine blk_alloc ?_ _)); refine blk_put (cs := #[.int .i64 0, .int .u64 0]) ?_ 0 _ rfl; (with_reducible repeat (first | refine blk_drewN ?_ _ | refine blk_drew ?_ | refine blk_alloc ?_ _)); exact BK216.out) Try.underlying111 rfl (by kernel_rfl)) rfl ?_
    exact ⟨by first | rfl | (simp [errW_none, errW_some] <;> rfl) | (simp [*, errW_none, errW_some] <;> rfl), by repeat (first | (with_reducible first | exact HB.out | apply below_alloc | apply pw_below_drewN | apply below_drew1 | refine below_set ?_ GE216.out) | exact HB.out)⟩

end Go.Proofs.Ytalnlphinlfenaa.S
end

section
namespace Go.Proofs.Ytalnlphinlfenaa.S
open Go.RowKit Go.Proofs.YtalnlphinlfenaaW.PrintWords Go.Proofs.YtalnlphinlfenaaW.PrintLast Go.Proofs.YtalnlphinlfenaaW.PrintMore
attribute [local go_sem] max2_int min2_int max_two min_two max_three min_three max_four min_four   -- for this text's walks alone
attribute [local go_sem] Go.Proofs.Ytalnlphinlfenaa.XWalk.cell2
set_option linter.unusedVariables false
set_option linter.unusedSimpArgs false

/-! ### lombardref02_plus: function 78 -/
-- IMPORT BigMath
theorem lombardref02_plus.round {a b S i : Nat} {c : Nat} (hc : c = Go.Proofs.Ytalnlphinlfenaa.BigMath.carry a b i) (hS : S = a + b) :
    bits .and .u8 ((B.bit a i + B.bit b i + (c : Int)) % 256) 1 = B.bit S i ∧ (B.bit a i + B.bit b i + (c : Int)) % 256 / 2 = (Go.Proofs.Ytalnlphinlfenaa.BigMath.carry a b (i + 1) : Nat) := by
  have h := Go.Proofs.Ytalnlphinlfenaa.BigMath.plus_step a b i
  have h1 := Go.Proofs.Ytalnlphinlfenaa.BigMath.bitN_lt a i
  have h2 := Go.Proofs.Ytalnlphinlfenaa.BigMath.bitN_lt b i
  have h3 := Go.Proofs.Ytalnlphinlfenaa.BigMath.bitN_lt (a + b) i
  have h4 := Go.Proofs.Ytalnlphinlfenaa.BigMath.carry_lt a b i
  subst hc hS
  unfold B.bit
  rw [B.and1 (by omega) (by omega)]
  omega
set_option maxRecDepth 100000 in
set_option maxHeartbeats 4000000 in
theorem lombardref02_plus.calls (a b : Nat) (w : World) : Calls Try.prog 78 #[.agg (B.cells a), .agg (B.cells b)] w fun e w' => e = .returned (.agg (B.cells ((a + b) % 2 ^ 260))) ∧ Below w.heap.size w w' := by
  obtain ⟨S, hS⟩ : ∃ S : Nat, S = a + b := ⟨_, rfl⟩
  obtain ⟨m, hm⟩ : ∃ m : Nat, m = 260 := ⟨_, rfl⟩
  rw [← hS]
  suffices h : Calls Try.prog 78 #[.agg (B.cells a), .agg (B.cells b)] w fun e w' => e = .returned (.agg (B.cells (S % 2 ^ m))) ∧ Below w.heap.size w w' by
    rw [hm] at h
    exact h
  have HS := Aside0.mk hS
  have HM := Aside0.mk hm
  clear hS hm
  go_enter Try.func78, Try.ntmps78
  go_wp2
  go_loopg [6, 7] 260 (fun kq v6 v7 w' => ∃ (c i : Nat), v6 = .int .u8 c ∧ v7 = .int .i64 i ∧ Aside0 (i + kq = 260) ∧ Aside0 (c = Go.Proofs.Ytalnlphinlfenaa.BigMath.carry a b i) ∧ Aside0 (B.Has w' w.heap.size a) ∧ Aside0 (B.Has w' (w.heap.size + 1) b) ∧ Aside0 (B.Has w' (w.heap.size + 1 + 1) 0) ∧ Aside0 (B.Has w' (w.heap.size + 1 + 1 + 1) (S % 2 ^ i)) ∧ Aside0 (Below w.heap.size w w'))
  case atStart =>
    have h1 := B.Has.new w a
    have h2 := B.Has.new (w.alloc (.cells (B.cells a) 99)) b
    have h3 := B.Has.new0 ((w.alloc (.cells (B.cells a) 99)).alloc (.cells (B.cells b) 99))
    have h4 := B.Has.new0 (((w.alloc (.cells (B.cells a) 99)).alloc (.cells (B.cells b) 99)).alloc (.cells Try.zeroCells99 99))
    simp only [World.size_alloc] at h2 h3 h4
    refine ⟨0, 0, rfl, rfl, ⟨rfl⟩, ⟨(Go.Proofs.Ytalnlphinlfenaa.BigMath.carry_zero a b).symm⟩, ⟨((h1.alloc _).alloc _).alloc _⟩, ⟨(h2.alloc _).alloc _⟩, ⟨h3.alloc _⟩, ⟨?_⟩, ⟨?_⟩⟩
    · rw [Nat.pow_zero, Nat.mod_one]
      exact h4
    · exact below_alloc (below_alloc (below_alloc (below_alloc (Below.refl _ w) _) _) _) _
  case round =>
    obtain ⟨c, i, rfl, rfl, hik, hc, hA, hB, hZ, hO, hW⟩ := hrel
    cases gk with
    | zero =>
      have q1 : decide ((i : Int) < 260) = false := decide_eq_false (by have := hik.out; omega)
      have e : i = m := by have := hik.out; have := HM.out; omega
      have E := Aside0.mk e
      clear e
      go_wp2_with (first | (refine wpList_load_row rfl 99 (.tmp 5) rfl (w.heap.size + 1 + 1 + 1) rfl 99 (B.cells (S % 2 ^ i)) (0, 0) _ hO.out B.under rfl (B.infoN _) ?_) | (refine wpList_store_row rfl 99 (.tmp 4) (.tmp 28) rfl (w.heap.size + 1 + 1) (B.cells (S % 2 ^ i)) rfl rfl 99 _ hZ.out (B.infoN _) (by rw [B.size, B.size]) (B.plain _) ?_))
      refine bodyPost_ret (results_cell_row (by rfl) _ _ (w.heap.size + 1 + 1) 99 (B.cells (S % 2 ^ i)) (0, 0) _ (by rfl) (hZ.out.row _) B.under rfl (B.infoN _)) rfl ?_
      exact ⟨by rw [E.out], B.below_row hW.out (by omega) _⟩
    | succ k1 =>
      have hi : i < 260 := by have := hik.out; omega
      have q1 : decide ((i : Int) < 260) = true := decide_eq_true (by omega)
      have xA := B.ix w.heap.size i hi
      have xB := B.ix (w.heap.size + 1) i hi
      have xO := B.ix (w.heap.size + 1 + 1 + 1) i hi
      have cA := hA.out.cell hi
      have cB := hB.out.cell hi
      obtain ⟨r1, r2⟩ := lombardref02_plus.round hc.out HS.out
      have R1 := Aside0.mk r1
      have R2 := Aside0.mk r2
      clear r1 r2
      go_upto_region 7 with (fail)
      repeat (go_quiet (fail); go_upto_region 7 with (fail))
      have cO := (hO.out).cell hi
      have fO := blk_frozen hO.out i
      go_upto_region 5 with (fail)
      go_wp2
      go_roundg k1
      case measure => omega
      case rel =>
        refine ⟨Go.Proofs.Ytalnlphinlfenaa.BigMath.carry a b (i + 1), i + 1, by rw [R2.out], by first | rfl | (rw [B.w1 (by omega) (by omega)]; rfl), ⟨by have := hik.out; omega⟩, ⟨rfl⟩, ⟨(hA.out.drew _).set _ _ (by show w.heap.size ≠ w.heap.size + 1 + 1 + 1; omega)⟩, ⟨(hB.out.drew _).set _ _ (by show w.heap.size + 1 ≠ w.heap.size + 1 + 1 + 1; omega)⟩, ⟨(hZ.out.drew _).set _ _ (by show w.heap.size + 1 + 1 ≠ w.heap.size + 1 + 1 + 1; omega)⟩, ⟨(hO.out.drew _).put hi R1.out⟩, ⟨(pw_below_drewN hW.out _).setCell (by show w.heap.size ≤ w.heap.size + 1 + 1 + 1; omega) _⟩⟩


end Go.Proofs.Ytalnlphinlfenaa.S
end

section
namespace Go.Proofs.Ytalnlphinlfenaa.S
open Go.RowKit Go.Proofs.YtalnlphinlfenaaW.PrintWords Go.Proofs.YtalnlphinlfenaaW.PrintLast Go.Proofs.YtalnlphinlfenaaW.PrintMore
attribute [local go_sem] max2_int min2_int max_two min_two max_three min_three max_four min_four   -- for this text's walks alone
attribute [local go_sem] Go.Proofs.Ytalnlphinlfenaa.XWalk.cell2
set_option linter.unusedVariables false
set_option linter.unusedSimpArgs false

/-! ### lombardref02_times: function 67 -/
-- IMPORT BigMath
theorem B.HasB.lt {w : World} {g N : Nat} {less : Bool} (h : B.HasB w g less N) : g < w.heap.size := (Array.getElem?_eq_some_iff.1 h).1
/-- a row of bits put behind a sign -/
theorem B.storeVarB {W : World} {g N M : Nat} {less : Bool} (h : B.HasB W g less N) : (storeVar 99 ⟨g, 1, none⟩ (.agg (B.cells M))).run Try.prog W = .ok () (W.setRow g (B.big less M)) := by
  have st := run_storeCells_at Try.prog g 1 101 (B.cells M).toList 0 (B.big less N) W h (by rw [Array.length_toList, B.size, B.big_size]; omega) (fun v hv => (Array.all_eq_true_iff_forall_mem.1 (B.plain M)) v (by simpa using hv))
  have e : ((B.big less N).toList.take (1 + 0) ++ (B.cells M).toList ++ (B.big less N).toList.drop (1 + 0 + (B.cells M).toList.length)).toArray = B.big less M := by
    have q : ∀ K, (B.big less K).toList = .bool less :: (B.cells K).toList := fun K => by simp [B.big]
    rw [List.drop_eq_nil_of_le (by rw [Array.length_toList, Array.length_toList, B.size, B.big_size]; omega), q, List.append_nil]
    apply Array.ext'
    rw [q]
    rfl
  rw [e] at st
  have hi := B.info
  cases hq : Try.prog.info? 99 with
  | none => simp [hq] at hi
  | some i =>
    have hs : i.size = 260 := by simpa [hq] using hi
    simp [storeVar, sizeOf, typeInfo, hq, Value.cells, hs, B.size, st]
theorem B.wpStoreB {ops : Array Oper} {rest : List Oper} {o : Oper} {a : Act} {w : World} {Q : Exit → Act → World → Prop} (hgd : o.guard = none) (x y : Operand) (ho : o.op = .store 99 x y)
    (g N M : Nat) (less : Bool) (hx : a.eval x = .pointer (some ⟨g, 1, none⟩)) (hy : a.eval y = .agg (B.cells M)) (hg : B.HasB w g less N)
    (h : wpList Try.prog ops Q rest (a.put o.dst undef) (w.setRow g (B.big less M))) : wpList Try.prog ops Q (o :: rest) a w :=
  wpList_plain hgd fun _ hK => by
    unfold Oper.wp execOp
    simp only [ho, hx, hy, Instr.storeAt, Instr.sureAddr, Sem.run_bind, Sem.run_pure, Result.andThen_ok, B.storeVarB hg]
    exact hK _ _ h
theorem B.builtB (l : Bool) : (Try.prog.built 101 #[(0, Value.bool l)].toList).getD #[] = B.big l 0 := by
  have e : (Try.prog.built 101 #[(0, Value.bool l)].toList).getD #[] = Try.zeroCells101.setIfInBounds 0 (.bool l) := by cases l <;> kernel_rfl
  rw [e, B.zeroB, B.big_less]
theorem B.someB (l : Bool) : (Try.prog.built 101 #[(0, Value.bool l)].toList).isSome = true := by cases l <;> kernel_rfl
theorem B.wpBuildB {ops : Array Oper} {rest : List Oper} {o : Oper} {a : Act} {w : World} {Q : Exit → Act → World → Prop} (hgd : o.guard = none) (x : Operand) (ho : o.op = .build 101 #[(0, x)]) (l l2 : Bool) (hx : a.eval x = .bool l) (hl : l = l2)
    (h : wpList Try.prog ops Q rest (a.put o.dst (.agg (B.big l2 0))) w) : wpList Try.prog ops Q (o :: rest) a w := by
  subst hl
  have m : (#[((0 : Nat), x)].map fun (i, x) => (i, a.eval x)) = #[(0, Value.bool l)] := by simp [hx]
  refine wpList_build hgd 101 #[(0, x)] ho ?_ ?_
  · rw [m]
    exact B.someB l
  · rw [m, B.builtB]
    exact h
def B.ofHi (a : Int) : Int := if a < 0 then -1 else 0
def B.ofLo (a : Int) : Int := IntKind.u64.wrap a
theorem B.ofLo_eq (a : Int) : B.ofLo a = a % 18446744073709551616 := by
  unfold B.ofLo
  simp only [IntKind.wrap, IntKind.bits, IntKind.signed]
  simp
theorem B.of_f (a : Int) : lombardref02_Of.f a = some (B.ofHi a, B.ofLo a) := by
  unfold lombardref02_Of.f B.ofHi B.ofLo
  split <;> rfl
theorem B.of_less (a : Int) : B.less (B.ofHi a) = decide (a < 0) := by
  unfold B.less B.ofHi
  split <;> simp_all
theorem B.of_abs {a : Int} (h0 : -9223372036854775808 ≤ a) (h1 : a ≤ 9223372036854775807) : B.abs (B.ofHi a) (B.ofLo a) = a.natAbs := by
  have e : (2 : Nat) ^ 128 = 340282366920938463463374607431768211456 := by decide
  unfold B.abs B.two
  rw [B.ofLo_eq, e]
  unfold B.ofHi
  split <;> split <;> omega
theorem B.ofCalls (a : Int) (w : World) : Calls Try.prog 75 #[.int .i64 a] w fun e w' => e = .returned (.agg #[.int .i64 (B.ofHi a), .int .u64 (B.ofLo a)]) ∧ Below w.heap.size w w' :=
  lombardref02_Of.calls a _ _ w (B.of_f a)
theorem B.bigOf {a : Int} (h0 : -9223372036854775808 ≤ a) (h1 : a ≤ 9223372036854775807) (w : World) : Calls Try.prog 74 #[.agg #[.int .i64 (B.ofHi a), .int .u64 (B.ofLo a)]] w fun e w' => e = .returned (.agg (B.big (decide (a < 0)) a.natAbs)) ∧ Below w.heap.size w w' := by
  have hb : -1 ≤ B.ofHi a ∧ B.ofHi a ≤ 0 := by unfold B.ofHi; split <;> omega
  have lb : 0 ≤ B.ofLo a ∧ B.ofLo a < 18446744073709551616 := by rw [B.ofLo_eq]; omega
  have := lombardref02_big.calls (B.ofHi a) (B.ofLo a) (by omega) (by omega) lb.1 lb.2 w
  rw [B.of_less, B.of_abs h0 h1] at this
  exact this
theorem lombardref02_times.moved (X i k : Nat) : X * 2 ^ i % 2 ^ (k + i) = X % 2 ^ k * 2 ^ i := by
  rw [Nat.pow_add, Nat.mul_mod_mul_right]
theorem lombardref02_times.bit (X i k : Nat) : B.bit X k = B.bit (X * 2 ^ i) (k + i) := by
  unfold B.bit
  rw [Go.Proofs.Ytalnlphinlfenaa.BigMath.bitN_mul, if_pos (by omega), Nat.add_sub_cancel]
/-- a bit more of the factor -/
theorem lombardref02_times.next (Y i : Nat) : Y % 2 ^ (i + 1) = Y % 2 ^ i + Go.Proofs.Ytalnlphinlfenaa.BigMath.bitN Y i * 2 ^ i := by
  unfold Go.Proofs.Ytalnlphinlfenaa.BigMath.bitN
  have := Nat.mod_mul (x := Y) (a := 2 ^ i) (b := 2)
  rw [Nat.pow_succ, this, Nat.mul_comm (2 ^ i)]
set_option maxRecDepth 100000 in
set_option maxHeartbeats 8000000 in
theorem lombardref02_times.calls (a b : Int) (a0 : -9223372036854775808 ≤ a) (a1 : a ≤ 9223372036854775807) (b0 : -9223372036854775808 ≤ b) (b1 : b ≤ 9223372036854775807) (w : World) : Calls Try.prog 67 #[.int .i64 a, .int .i64 b] w fun e w' => e = .returned (.agg (B.big (decide (a < 0) != decide (b < 0)) (a.natAbs * b.natAbs))) ∧ Below w.heap.size w w' := by
  obtain ⟨ah, al, OA, BA⟩ : ∃ h l, (∀ W, Calls Try.prog 75 #[.int .i64 a] W fun e w' => e = .returned (.agg #[.int .i64 h, .int .u64 l]) ∧ Below W.heap.size W w') ∧ ∀ W, Calls Try.prog 74 #[.agg #[.int .i64 h, .int .u64 l]] W fun e w' => e = .returned (.agg (B.big (decide (a < 0)) a.natAbs)) ∧ Below W.heap.size W w' := ⟨_, _, fun W => B.ofCalls a W, fun W => B.bigOf a0 a1 W⟩
  obtain ⟨bh, bl, OB, BB⟩ : ∃ h l, (∀ W, Calls Try.prog 75 #[.int .i64 b] W fun e w' => e = .returned (.agg #[.int .i64 h, .int .u64 l]) ∧ Below W.heap.size W w') ∧ ∀ W, Calls Try.prog 74 #[.agg #[.int .i64 h, .int .u64 l]] W fun e w' => e = .returned (.agg (B.big (decide (b < 0)) b.natAbs)) ∧ Below W.heap.size W w' := ⟨_, _, fun W => B.ofCalls b W, fun W => B.bigOf b0 b1 W⟩
  have xl : a.natAbs ≤ 2 ^ 63 := by have e : (2 : Nat) ^ 63 = 9223372036854775808 := by decide
                                    rw [e]; omega
  have yl : b.natAbs ≤ 2 ^ 63 := by have e : (2 : Nat) ^ 63 = 9223372036854775808 := by decide
                                    rw [e]; omega
  clear a0 a1 b0 b1
  obtain ⟨X, hX⟩ : ∃ X, X = a.natAbs := ⟨_, rfl⟩
  obtain ⟨Y, hY⟩ : ∃ Y, Y = b.natAbs := ⟨_, rfl⟩
  obtain ⟨la, hla⟩ : ∃ l, l = decide (a < 0) := ⟨_, rfl⟩
  obtain ⟨lb, hlb⟩ : ∃ l, l = decide (b < 0) := ⟨_, rfl⟩
  rw [← hX] at BA xl
  rw [← hY] at BB yl
  rw [← hla] at BA
  rw [← hlb] at BB
  rw [← hX, ← hY, ← hla, ← hlb]
  clear hX hY hla hlb
  obtain ⟨L, hL⟩ : ∃ L, L = (la != lb) := ⟨_, rfl⟩
  rw [← hL]
  have HL := Aside0.mk hL
  have XL := Aside0.mk xl
  have YL := Aside0.mk yl
  clear hL xl yl
  go_enter Try.func67, Try.ntmps67
  go_upto_region 1 with (fail)
  have z4 := B.HasB.new0 w
  have W1 := below_alloc (Below.refl w.heap.size w) (.cells Try.zeroCells101 101)
  generalize w.alloc (.cells Try.zeroCells101 101) = w1 at *
  go_upto_region 2 with (first | (go_at_call 75; (with_reducible refine (OA _).mono ?_); rintro e w11 ⟨rfl, hb1⟩) | (go_at_call 74; (with_reducible refine (BA _).mono ?_); rintro e w12 ⟨rfl, hb2⟩) | (go_at_call 75; (with_reducible refine (OB _).mono ?_); rintro e w13 ⟨rfl, hb3⟩) | (go_at_call 74; (with_reducible refine (BB _).mono ?_); rintro e w14 ⟨rfl, hb4⟩; have y5 := (B.HasB.new0 w14).alloc (.cells Try.zeroCells101 101); have y6 := (B.HasB.new0 (w14.alloc (.cells Try.zeroCells101 101))).setR (k := w14.heap.size) (B.big la X) (by rw [World.size_alloc]; omega); rw [World.size_alloc] at y6) | ((with_reducible refine B.gateOp (.store 101 (.tmp 5) (.tmp 13)) rfl ?_); refine wpList_store_row rfl 101 (.tmp 5) (.tmp 13) rfl w14.heap.size (B.big la X) rfl rfl 101 _ y5 (B.infoB _ _) (by rw [B.big_size, B.big_size]) (B.plainB _ _) ?_) | ((with_reducible refine B.gateOp (.store 101 (.tmp 6) (.tmp 16)) rfl ?_); refine wpList_store_row rfl 101 (.tmp 6) (.tmp 16) rfl (w14.heap.size + 1) (B.big lb Y) rfl rfl 101 _ y6 (B.infoB _ _) (by rw [B.big_size, B.big_size]) (B.plainB _ _) ?_))
  have h0 := z4.lt
  have hz : w.heap.size < w14.heap.size := by have := hb1.size; have := hb2.size; have := hb3.size; have := hb4.size; omega
  have z5 := (((((((z4.below hb1).below hb2).below hb3).below hb4).alloc (.cells Try.zeroCells101 101)).alloc (.cells Try.zeroCells101 101)).setR (k := w14.heap.size) (B.big la X) (by omega)).setR (k := w14.heap.size + 1) (B.big lb Y) (by omega)
  have x5 := (B.HasB.row y5 la X).setR (k := w14.heap.size + 1) (B.big lb Y) (by omega)
  have x6 := B.HasB.row y6 lb Y
  have W2 := below_then W1 W1.size hb1
  have W3 := below_then W2 W2.size hb2
  have W4 := below_then W3 W3.size hb3
  have W5 := below_then W4 W4.size hb4
  have W6 := B.below_row (B.below_row (below_alloc (below_alloc W5 (.cells Try.zeroCells101 101)) (.cells Try.zeroCells101 101)) (k := w14.heap.size) (by omega) (B.big la X)) (k := w14.heap.size + 1) (by omega) (B.big lb Y)
  clear W1 W2 W3 W4 W5 y5 y6 hb1 hb2 hb3 hb4 z4 h0 OA OB BA BB
  generalize (((w14.alloc (.cells Try.zeroCells101 101)).alloc (.cells Try.zeroCells101 101)).setRow w14.heap.size (B.big la X)).setRow (w14.heap.size + 1) (B.big lb Y) = w5 at *
  generalize w14.heap.size = g at *
  have hg := x6.lt
  have c5 := x5.cell0
  have c6 := x6.cell0
  have y7 := B.HasB.new0 w5
  go_upto_region 3 with (first | ((with_reducible refine B.gateOp (.build 101 #[(0, .tmp 21)]) rfl ?_); refine B.wpBuildB rfl (.tmp 21) rfl _ L rfl (by rw [HL.out]; cases la <;> cases lb <;> rfl) ?_) | ((with_reducible refine B.gateOp (.store 101 (.tmp 7) (.tmp 22)) rfl ?_); refine wpList_store_row rfl 101 (.tmp 7) (.tmp 22) rfl w5.heap.size (B.big L 0) rfl rfl 101 _ y7 (B.infoB _ _) (by rw [B.big_size, B.big_size]) (B.plainB _ _) ?_))
  have z7 := (z5.alloc (.cells Try.zeroCells101 101)).setR (k := w5.heap.size) (B.big L 0) (by omega)
  have x7 := (x5.alloc (.cells Try.zeroCells101 101)).setR (k := w5.heap.size) (B.big L 0) (by omega)
  have q7 := (x6.alloc (.cells Try.zeroCells101 101)).setR (k := w5.heap.size) (B.big L 0) (by omega)
  have r7 := B.HasB.row y7 L 0
  have W7 := B.below_row (below_alloc W6 (.cells Try.zeroCells101 101)) (k := w5.heap.size) (by omega) (B.big L 0)
  clear z5 x5 x6 y7 W6 c5 c6
  generalize (w5.alloc (.cells Try.zeroCells101 101)).setRow w5.heap.size (B.big L 0) = w6 at *
  generalize w5.heap.size = h at *
  have Z7 := Aside0.mk z7
  have X7 := Aside0.mk x7
  have Q7 := Aside0.mk q7
  have R7 := Aside0.mk r7
  have V7 := Aside0.mk W7
  clear z7 x7 q7 r7 W7 HL
  go_wp2
  go_loopg [8] 64 (fun kq v8 w' => ∃ (i : Nat), v8 = .int .i64 i ∧ Aside0 (i + kq = 64) ∧ Aside0 (B.HasB w' w.heap.size false 0) ∧ Aside0 (B.HasB w' g la X) ∧ Aside0 (B.HasB w' (g + 1) lb Y) ∧ Aside0 (B.HasB w' h L (X * (Y % 2 ^ i))) ∧ Aside0 (Below w.heap.size w w'))
  case atStart => exact ⟨0, rfl, ⟨rfl⟩, Z7, X7, Q7, ⟨by rw [Nat.pow_zero, Nat.mod_one, Nat.mul_zero]; exact R7.out⟩, V7⟩
  case round =>
    clear Z7 X7 Q7 R7 V7
    obtain ⟨i, rfl, hik, hZ, hX, hY, hO, hW⟩ := hrel
    cases gk with
    | zero =>
      have q1 : decide ((i : Int) < 64) = false := decide_eq_false (by have := hik.out; omega)
      have hO' : B.HasB wr h L (X * Y) := by
        have := hO.out
        rw [show i = 64 by have := hik.out; omega, Nat.mod_eq_of_lt (Nat.lt_of_le_of_lt YL.out (Nat.pow_lt_pow_right (by omega) (by omega)))] at this
        exact this
      clear hik hX hY hO
      go_wp2_with (first | ((with_reducible refine B.gateOp (.load 101 (.tmp 7)) rfl ?_); refine wpList_load_row rfl 101 (.tmp 7) rfl h rfl 101 (B.big L (X * Y)) (0, 0) _ hO' Try.underlying101 rfl (B.infoB _ _) ?_) | ((with_reducible refine B.gateOp (.store 101 (.tmp 4) (.tmp 49)) rfl ?_); refine wpList_store_row rfl 101 (.tmp 4) (.tmp 49) rfl w.heap.size (B.big L (X * Y)) rfl rfl 101 _ hZ.out (B.infoB _ _) (by rw [B.big_size, B.big_size]) (B.plainB _ _) ?_))
      refine bodyPost_ret (results_cell_row (by rfl) _ _ w.heap.size 101 (B.big L (X * Y)) (0, 0) _ (by rfl) (hZ.out.row _ _) Try.underlying101 rfl (B.infoB _ _)) rfl ?_
      exact ⟨rfl, B.below_row hW.out (by omega) _⟩
    | succ k1 =>
      have i64 : i < 64 := by have := hik.out; omega
      have q1 : decide ((i : Int) < 64) = true := decide_eq_true (by omega)
      have xY := B.ixB (g + 1) i (by omega)
      have cY := hY.out.cell (i := i) (by omega)
      have nx := lombardref02_times.next Y i
      have b2 := Go.Proofs.Ytalnlphinlfenaa.BigMath.bitN_lt Y i
      have nw : wrap64 ((i : Int) + 1) = ((i + 1 : Nat) : Int) := by unfold wrap64; omega
      have NW := Aside0.mk nw
      clear nw
      rcases (show Go.Proofs.Ytalnlphinlfenaa.BigMath.bitN Y i = 0 ∨ Go.Proofs.Ytalnlphinlfenaa.BigMath.bitN Y i = 1 by omega) with c | c
      · have cv : B.bit Y i = 0 := by unfold B.bit; rw [c]; rfl
        rw [cv] at cY
        rw [c, Nat.zero_mul, Nat.add_zero] at nx
        have NX := Aside0.mk nx
        clear nx c b2 cv i64
        go_wp2
        go_roundg k1
        case measure => omega
        case rel => exact ⟨i + 1, by first | rfl | rw [← NW.out], ⟨by have := hik.out; omega⟩, hZ, hX, hY, ⟨by rw [NX.out]; exact hO.out⟩, hW⟩
      · have cv : B.bit Y i = 1 := by unfold B.bit; rw [c]; rfl
        rw [cv] at cY
        rw [c, Nat.one_mul] at nx
        have NX := Aside0.mk nx
        clear nx c b2 cv
        obtain ⟨S, hS⟩ : ∃ S, S = X * 2 ^ i := ⟨_, rfl⟩
        obtain ⟨T, hT⟩ : ∃ T, T = X * (Y % 2 ^ i) := ⟨_, rfl⟩
        rw [← hT] at hO
        have ml := hO.out.lt
        have pn : (T + S) % 2 ^ 260 = X * (Y % 2 ^ (i + 1)) := by
          have e : T + S = X * (Y % 2 ^ (i + 1)) := by rw [hT, hS, NX.out, Nat.mul_add]
          rw [e]
          refine Nat.mod_eq_of_lt (Nat.lt_of_le_of_lt (Nat.mul_le_mul XL.out (Nat.le_of_lt (Nat.mod_lt Y (show 0 < 2 ^ (i + 1) from Nat.pow_pos (by decide))))) ?_)
          rw [← Nat.pow_add]
          exact @Nat.pow_lt_pow_right 2 (63 + (i + 1)) 260 (by decide) (by omega)
        have PN := Aside0.mk pn
        have sl : S % 2 ^ (64 + i) = S := by
          refine Nat.mod_eq_of_lt ?_
          rw [hS, Nat.pow_add]
          exact Nat.mul_lt_mul_of_pos_right (Nat.lt_of_le_of_lt XL.out (Nat.pow_lt_pow_right (by omega) (by omega))) (Nat.pow_pos (by decide))
        have SL := Aside0.mk sl
        have s0 : S % 2 ^ (0 + i) = 0 := by rw [hS, lombardref02_times.moved, Nat.pow_zero, Nat.mod_one, Nat.zero_mul]
        have S0 := Aside0.mk s0
        have bt : ∀ k, B.bit X k = B.bit S (k + i) := fun k => by rw [hS]; exact lombardref02_times.bit X i k
        have BT := Aside0.mk bt
        have PL := fun W => lombardref02_plus.calls T S W
        rw [PN.out] at PL
        obtain ⟨U, hU⟩ : ∃ U, U = X * (Y % 2 ^ (i + 1)) := ⟨_, rfl⟩
        rw [← hU] at PL
        have HU := Aside0.mk hU
        clear pn sl s0 bt hU hT hS PN NX
        have Zr := hZ.out.alloc (.cells Try.zeroCells99 99)
        have Xr := hX.out.alloc (.cells Try.zeroCells99 99)
        have Yr := hY.out.alloc (.cells Try.zeroCells99 99)
        have Or := hO.out.alloc (.cells Try.zeroCells99 99)
        have Mr := B.Has.new0 wr
        have Wr := below_alloc hW.out (.cells Try.zeroCells99 99)
        clear hZ hX hY hO hW
        go_upto_region 8 with (fail)
        clear cY xY
        generalize wr.alloc (.cells Try.zeroCells99 99) = wm at *
        generalize wr.heap.size = m at *
        have KZ := Aside0.mk Zr
        have KX := Aside0.mk Xr
        have KY := Aside0.mk Yr
        have KO := Aside0.mk Or
        have KM := Aside0.mk Mr
        have KW := Aside0.mk Wr
        clear Zr Xr Yr Or Mr Wr
        go_wp2
        go_loopg [10] 64 (fun kq v10 w' => ∃ (k : Nat), v10 = .int .i64 k ∧ Aside0 (k + kq = 64) ∧ Aside0 (B.HasB w' w.heap.size false 0) ∧ Aside0 (B.HasB w' g la X) ∧ Aside0 (B.HasB w' (g + 1) lb Y) ∧ Aside0 (B.HasB w' h L T) ∧ Aside0 (B.Has w' m (S % 2 ^ (k + i))) ∧ Aside0 (Below w.heap.size w w'))
        case atStart => exact ⟨0, rfl, ⟨rfl⟩, KZ, KX, KY, KO, ⟨by rw [S0.out]; exact KM.out⟩, KW⟩
        case round =>
          clear KZ KX KY KO KM KW
          obtain ⟨k, rfl, hkq, hZ, hX, hY, hO, hM, hW⟩ := hrel
          cases gk with
          | zero =>
            have q2 : decide ((k : Int) < 64) = false := decide_eq_false (by have := hkq.out; omega)
            have hM' : B.Has wr m S := by
              have := hM.out
              rw [show k = 64 by have := hkq.out; omega, SL.out] at this
              exact this
            clear hkq hM
            go_upto_region 5 with (first | ((with_reducible refine B.gateOp (.load 99 (.tmp 44)) rfl ?_); refine B.wpLoadB rfl (.tmp 44) rfl h T L rfl hO.out ?_) | ((with_reducible refine B.gateOp (.load 99 (.tmp 9)) rfl ?_); refine wpList_load_row rfl 99 (.tmp 9) rfl m rfl 99 (B.cells S) (0, 0) _ hM' B.under rfl (B.infoN _) ?_) | (go_at_call 78; (with_reducible refine (PL _).mono ?_); rintro e w9 ⟨rfl, hb9⟩; have o9 := hO.out.below hb9) | ((with_reducible refine B.gateOp (.store 99 (.tmp 48) (.tmp 47)) rfl ?_); refine B.wpStoreB rfl (.tmp 48) (.tmp 47) rfl h T U L rfl rfl o9 ?_))
            have z9 := (hZ.out.below hb9).setR (k := h) (B.big L U) (by omega)
            have x9 := (hX.out.below hb9).setR (k := h) (B.big L U) (by omega)
            have y9 := (hY.out.below hb9).setR (k := h) (B.big L U) (by omega)
            have r9 := B.HasB.row o9 L U
            have W9 := B.below_row (below_then hW.out hW.out.size hb9) (k := h) (by omega) (B.big L U)
            generalize w9.setRow h (B.big L U) = wz at *
            have E1 := Aside0.mk z9
            have E2 := Aside0.mk x9
            have E3 := Aside0.mk y9
            have E4 := Aside0.mk r9
            have E5 := Aside0.mk W9
            clear z9 x9 y9 r9 W9 o9 hb9 hZ hX hY hO hM' hW
            go_wp2
            go_roundg k1
            case measure => omega
            case rel => exact ⟨i + 1, by first | rfl | rw [← NW.out], ⟨by have := hik.out; omega⟩, E1, E2, E3, ⟨by rw [← HU.out]; exact E4.out⟩, E5⟩
          | succ k2 =>
            have k64 : k < 64 := by have := hkq.out; omega
            have q2 : decide ((k : Int) < 64) = true := decide_eq_true (by omega)
            obtain ⟨j, hj⟩ : ∃ j, j = k + i := ⟨_, rfl⟩
            have jl : j < 260 := by omega
            have XK : wrap64 ((k : Int) + (i : Int)) = (j : Int) := by unfold wrap64; omega
            have xX := B.ixB g k (by omega)
            have cX := hX.out.cell (i := k) (by omega)
            have xM := B.ix m j jl
            have hM' : B.Has wr m (S % 2 ^ j) := by rw [hj]; exact hM.out
            have cM := hM'.cell jl
            have fM := blk_frozen hM' j
            have nk : wrap64 ((k : Int) + 1) = ((k + 1 : Nat) : Int) := by unfold wrap64; omega
            have NK := Aside0.mk nk
            have NM := Aside0.mk (hM'.put jl (show B.bit X k = B.bit S j by rw [hj]; exact BT.out k))
            have e : S % 2 ^ (j + 1) = S % 2 ^ (k + 1 + i) := by rw [hj, show k + i + 1 = k + 1 + i by omega]
            have NE := Aside0.mk e
            have HJ := Aside0.mk hj
            clear hM nk e hj k64 i64
            go_upto_region 10 with (fail)
            clear cM fM xM xX cX XK
            go_wp2
            go_roundg k2
            case measure => omega
            case rel => exact ⟨k + 1, by first | rfl | rw [← NK.out], ⟨by have := hkq.out; omega⟩, ⟨hZ.out.set _ _ (by show w.heap.size ≠ m; omega)⟩, ⟨hX.out.set _ _ (by show g ≠ m; omega)⟩, ⟨hY.out.set _ _ (by show g + 1 ≠ m; omega)⟩, ⟨hO.out.set _ _ (by show h ≠ m; omega)⟩, ⟨by rw [← NE.out]; exact NM.out⟩, ⟨hW.out.setCell (by show w.heap.size ≤ m; omega) _⟩⟩


end Go.Proofs.Ytalnlphinlfenaa.S
end

section
namespace Go.Proofs.Ytalnlphinlfenaa.S
open Go.RowKit Go.Proofs.YtalnlphinlfenaaW.PrintWords Go.Proofs.YtalnlphinlfenaaW.PrintLast Go.Proofs.YtalnlphinlfenaaW.PrintMore
attribute [local go_sem] max2_int min2_int max_two min_two max_three min_three max_four min_four   -- for this text's walks alone
attribute [local go_sem] Go.Proofs.Ytalnlphinlfenaa.XWalk.cell2
set_option linter.unusedVariables false
set_option linter.unusedSimpArgs false

/-! ### lombardref02_div: function 66 -/
-- IMPORT BigMath
theorem B.Has.lt {w : World} {g N : Nat} (h : B.Has w g N) : g < w.heap.size := (Array.getElem?_eq_some_iff.1 h).1
theorem B.built1 : (Try.prog.built 99 #[(0, Value.int IntKind.u8 1)].toList).getD #[] = B.cells 1 := by
  have e : (Try.prog.built 99 #[(0, Value.int IntKind.u8 1)].toList).getD #[] = (Array.replicate 260 (.int .u8 0)).setIfInBounds 0 (.int .u8 1) := by kernel_rfl
  have s := B.put 1 0 1 (by omega) (by unfold B.bit Go.Proofs.Ytalnlphinlfenaa.BigMath.bitN; decide)
  rw [show (1 : Nat) % 2 ^ 0 = 0 by decide, show (1 : Nat) % 2 ^ (0 + 1) = 1 by decide] at s
  rw [e, B.rep, s]
theorem B.some1 : (Try.prog.built 99 #[(0, Value.int IntKind.u8 1)].toList).isSome = true := by kernel_rfl
theorem B.wpBuild1 {ops : Array Oper} {rest : List Oper} {o : Oper} {a : Act} {w : World} {Q : Exit → Act → World → Prop} (hgd : o.guard = none) (ho : o.op = .build 99 #[(0, .const (.int .u8 1))])
    (h : wpList Try.prog ops Q rest (a.put o.dst (.agg (B.cells 1))) w) : wpList Try.prog ops Q (o :: rest) a w := by
  have m : (#[((0 : Nat), Operand.const (Value.int IntKind.u8 1))].map fun (i, x) => (i, a.eval x)) = #[(0, Value.int IntKind.u8 1)] := by simp [Act.eval]
  refine wpList_build hgd 99 #[(0, .const (.int .u8 1))] ho ?_ ?_
  · rw [m]
    exact B.some1
  · rw [m, B.built1]
    exact h
theorem B.built0 : (Try.prog.built 99 (#[] : Array (Nat × Value)).toList).getD #[] = B.cells 0 := by
  have e : (Try.prog.built 99 (#[] : Array (Nat × Value)).toList).getD #[] = Array.replicate 260 (.int .u8 0) := by kernel_rfl
  rw [e, B.rep]
theorem B.some0 : (Try.prog.built 99 (#[] : Array (Nat × Value)).toList).isSome = true := by kernel_rfl
theorem B.wpBuild0 {ops : Array Oper} {rest : List Oper} {o : Oper} {a : Act} {w : World} {Q : Exit → Act → World → Prop} (hw : Region.wanted o (yielded ops a.tmps) = true) (ho : o.op = .build 99 #[])
    (h : wpList Try.prog ops Q rest (a.put o.dst (.agg (B.cells 0))) w) : wpList Try.prog ops Q (o :: rest) a w := by
  refine wpList_step fun K hK => ?_
  rw [if_pos hw]
  have m : ((#[] : Array (Nat × Operand)).map fun (i, x) => (i, a.eval x)) = #[] := by simp
  refine wp_build 99 #[] ho ?_ ?_
  · rw [m]
    exact B.some0
  · rw [m, B.built0]
    exact hK _ _ h
theorem B.wpLoadW {ops : Array Oper} {rest : List Oper} {o : Oper} {a : Act} {w : World} {Q : Exit → Act → World → Prop} (hw : Region.wanted o (yielded ops a.tmps) = true) (x : Operand) (ho : o.op = .load 99 x) (g N : Nat) (hx : a.eval x = .pointer (some ⟨g, 0, none⟩)) (hg : B.HasC w g (B.cells N))
    (h : wpList Try.prog ops Q rest (a.put o.dst (.agg (B.cells N))) w) : wpList Try.prog ops Q (o :: rest) a w := by
  refine wpList_step fun K hK => ?_
  rw [if_pos hw]
  unfold Oper.wp
  rw [B.load x ho hx hg]
  exact hK _ _ h
theorem B.loadB {o : Oper} {ρ : Operand → Value} {W : World} {g N : Nat} {less : Bool} (x : Operand) (ho : o.op = .load 99 x) (hx : ρ x = .pointer (some ⟨g, 1, none⟩)) (h : B.HasB W g less N) : (execOp ρ o).run Try.prog W = .ok (.value (.agg (B.cells N))) W := by
  unfold execOp
  simp only [ho, hx, Instr.loadAt, Instr.sureAddr, Sem.run_bind, Sem.run_pure, Result.andThen_ok, B.loadVarB h]
theorem B.opCall {ops : Array Oper} {i : Nat} {o : Oper} {K : Act → World → Prop} {Q : Exit → Act → World → Prop} {a : Act} {w : World} (hi : ops[i]? = some o) (hg : o.guard = none) (u v : Value) (f : FuncId) (fn : Func) (x y : Operand) (ts : Array TypeId) (hf : Try.prog.funcs[f]? = some fn) (hname : (fn.name == "runtime.NumGoroutine") = false) (hb : fn.body.isSome = true)
    (ho : o.op = .call { callee := .value (.func f), args := #[x, y], argTypes := ts }) (hx : a.eval x = u) (hy : a.eval y = v) (h : Calls Try.prog f #[u, v] w fun e w' => ∃ z, e = .returned z ∧ K (a.put o.dst z) w') : wpOp Try.prog ops Q i K a w := by
  have hw : Region.wanted o (yielded ops a.tmps) = true := by simp [Region.wanted, hg]
  have t := goes_ (P := Try.prog) (ops := ops) (Q := Q) hf hname hb #[u, v] hw rfl ho (by simp [hx, hy]) h
  rw [if_pos hw] at t
  unfold wpOp
  simp only [hi]
  rw [if_pos hw]
  exact Or.inl t
theorem B.fold (cs : List Value) : ∀ (k : Nat) (z : Array Value), 1 + k + cs.length = z.size → (cs.zipIdx k).foldl (fun (a : Array Value) (x : Value × Nat) => a.setIfInBounds (1 + x.2) x.1) z = (z.toList.take (1 + k) ++ cs).toArray := by
  induction cs with
  | nil =>
    intro k z h
    simp at h
    rw [h, List.append_nil, List.take_of_length_le (by rw [Array.length_toList]; omega)]
    rfl
  | cons c cs ih =>
    intro k z h
    rw [List.zipIdx_cons, List.foldl_cons, ih (k + 1) _ (by rw [Array.size_setIfInBounds]; simp at h; omega)]
    congr 1
    rw [Array.toList_setIfInBounds, show 1 + (k + 1) = 1 + k + 1 by omega, List.take_add_one, List.take_set_of_le (by omega), List.getElem?_set_self (by rw [Array.length_toList]; simp at h; omega)]
    simp
theorem B.fill2 (p : Nat → Option (Nat × Nat)) (h0 : p 0 = some (0, 1)) (h1 : p 1 = some (1, 260)) (l : Bool) (N : Nat) : Instr.fill p (B.big false 0) [(0, Value.bool l), (1, Value.agg (B.cells N))] = some (B.big l N) := by
  have g := B.fold (B.cells N).toList 0 (B.big l 0) (by rw [Array.length_toList, B.size, B.big_size])
  have z : (B.cells N).zipIdx.foldl (fun (a : Array Value) (x : Value × Nat) => a.setIfInBounds (1 + x.2) x.1) (B.big l 0) = B.big l N := by
    rw [← Array.foldl_toList, Array.toList_zipIdx, g]
    unfold B.big
    simp
  have z0 : (#[Value.bool l] : Array Value).zipIdx.foldl (fun (a : Array Value) (x : Value × Nat) => a.setIfInBounds (0 + x.2) x.1) (B.big false 0) = B.big l 0 := by
    rw [← Array.foldl_toList, show (#[Value.bool l] : Array Value).zipIdx.toList = [(Value.bool l, 0)] from rfl, List.foldl_cons, List.foldl_nil]
    exact B.big_less false l 0
  have s1 : (#[Value.bool l] : Array Value).size = 1 := rfl
  have s2 := B.big_size l 0
  have s3 := B.big_size false 0
  have s4 := B.size N
  simp only [Instr.fill, Value.cells, h0, h1]
  simp only [z0, s1, s2, s3, s4]
  simp only [z]
  simp
theorem B.cellsB (l : Bool) (N : Nat) : Try.prog.built 101 #[(0, Value.bool l), (1, Value.agg (B.cells N))].toList = some (B.big l N) := by
  have e : Try.prog.built 101 #[(0, Value.bool l), (1, Value.agg (B.cells N))].toList = Instr.fill ((#[(0, 1), (1, 260)] : Array (Nat × Nat))[·]?) Try.zeroCells101 [(0, Value.bool l), (1, Value.agg (B.cells N))] := by kernel_rfl
  rw [e, B.zeroB]
  exact B.fill2 _ rfl rfl l N
theorem B.wpBuildLQ {ops : Array Oper} {rest : List Oper} {o : Oper} {a : Act} {w : World} {Q : Exit → Act → World → Prop} (hgd : o.guard = none) (x y : Operand) (ho : o.op = .build 101 #[(0, x), (1, y)]) (l : Bool) (N : Nat) (hx : a.eval x = .bool l) (hy : a.eval y = .agg (B.cells N))
    (h : wpList Try.prog ops Q rest (a.put o.dst (.agg (B.big l N))) w) : wpList Try.prog ops Q (o :: rest) a w := by
  have m : (#[((0 : Nat), x), (1, y)].map fun (i, x) => (i, a.eval x)) = #[(0, Value.bool l), (1, Value.agg (B.cells N))] := by simp [hx, hy]
  refine wpList_build hgd 101 #[(0, x), (1, y)] ho ?_ ?_
  · rw [m, B.cellsB]
    rfl
  · rw [m, B.cellsB]
    exact h
theorem lombardref02_div.twice (r D n m : Nat) (h : r < D) (hD : D ≤ 2 ^ n) (hm : n + 1 ≤ m) : r + r < 2 ^ m := by
  have c := Nat.pow_le_pow_right (show 2 > 0 by decide) hm
  rw [Nat.pow_succ] at c
  omega
theorem lombardref02_div.below (r D n m : Nat) (h : r < D) (hD : D ≤ 2 ^ n) (hm : n ≤ m) : r < 2 ^ m := by
  have c := Nat.pow_le_pow_right (show 2 > 0 by decide) hm
  omega
theorem lombardref02_div.more (q n m : Nat) (h : q < 2 ^ n) (hm : n < m) : q + 1 < 2 ^ m := by
  have c := Nat.pow_lt_pow_right (show 1 < 2 by decide) hm
  omega
def lombardref02_div.up (way : Int) (L : Bool) (N D : Nat) : Bool := if way = 0 then (L && decide (0 < N % D)) else (decide (D < N % D + N % D) || (decide (N % D + N % D = D) && decide (N / D % 2 = 1)))
def lombardref02_div.Q (way : Int) (L : Bool) (N D : Nat) : Nat := if lombardref02_div.up way L N D = true then N / D + 1 else N / D
def lombardref02_div.r (way : Int) (L : Bool) (N D : Nat) : Int := if lombardref02_small.ok L (lombardref02_div.Q way L N D) = true then lombardref02_small.v L (lombardref02_div.Q way L N D) else 0
def lombardref02_div.e (way : Int) (L : Bool) (N D : Nat) : Int := if lombardref02_small.ok L (lombardref02_div.Q way L N D) = true then 0 else 3
set_option maxRecDepth 100000 in
set_option maxHeartbeats 8000000 in
theorem lombardref02_div.calls0 (less : Bool) (N : Nat) (hN : N < 2 ^ 256) (b : Int) (b0 : -9223372036854775808 ≤ b) (b1 : b ≤ 9223372036854775807) (bz : b ≠ 0) (w : World) : Calls Try.prog 66 #[.agg (B.big less N), .int .i64 b, .int .i64 0] w fun e w' => e = .returned (.tuple #[.int .i64 (lombardref02_div.r 0 (less != decide (b < 0)) N b.natAbs), .int .i64 (lombardref02_div.e 0 (less != decide (b < 0)) N b.natAbs)]) ∧ Below w.heap.size w w' := by
  obtain ⟨bh, bl, OB, BB⟩ : ∃ h l, (∀ W, Calls Try.prog 75 #[.int .i64 b] W fun e w' => e = .returned (.agg #[.int .i64 h, .int .u64 l]) ∧ Below W.heap.size W w') ∧ ∀ W, Calls Try.prog 74 #[.agg #[.int .i64 h, .int .u64 l]] W fun e w' => e = .returned (.agg (B.big (decide (b < 0)) b.natAbs)) ∧ Below W.heap.size W w' := ⟨_, _, fun W => B.ofCalls b W, fun W => B.bigOf b0 b1 W⟩
  have dl : b.natAbs ≤ 2 ^ 63 := by have e : (2 : Nat) ^ 63 = 9223372036854775808 := by decide
                                    rw [e]; omega
  have d0 : 0 < b.natAbs := by omega
  have qz : (b == 0) = false := by simp [bz]
  clear b0 b1 bz
  obtain ⟨D, hD⟩ : ∃ D, D = b.natAbs := ⟨_, rfl⟩
  obtain ⟨lb, hlb⟩ : ∃ l, l = decide (b < 0) := ⟨_, rfl⟩
  rw [← hD] at dl d0 BB
  rw [← hlb] at BB
  rw [← hD, ← hlb]
  clear hD hlb
  obtain ⟨L, hL⟩ : ∃ L, L = (less != lb) := ⟨_, rfl⟩
  rw [← hL]
  have HL := Aside0.mk hL
  have d256 : D < 2 ^ 256 := Nat.lt_of_le_of_lt dl (Nat.pow_lt_pow_right (by omega) (by omega))
  have n260 : N < 2 ^ 260 := Nat.lt_of_lt_of_le hN (@Nat.pow_le_pow_right 2 (by decide) 256 260 (by decide))
  have QU := fun W => lombardref02_quo.calls N D n260 d0 d256 W
  obtain ⟨q, hq⟩ : ∃ q, q = N / D := ⟨_, rfl⟩
  obtain ⟨r, hr⟩ : ∃ r, r = N % D := ⟨_, rfl⟩
  have rl : r < D := by rw [hr]; exact Nat.mod_lt N d0
  have ql : q < 2 ^ 256 := by rw [hq]; exact Nat.lt_of_le_of_lt (Nat.div_le_self N D) hN
  rw [← hq, ← hr] at QU
  have HQ := Aside0.mk hq
  have HR := Aside0.mk hr
  have DL := Aside0.mk dl
  have RL := Aside0.mk rl
  have QL := Aside0.mk ql
  have NL := Aside0.mk hN
  have D0 := Aside0.mk d0
  clear hL hN dl rl ql d0 d256 n260 hq hr
  go_enter Try.func66, Try.ntmps66
  have y3 := B.HasB.new w less N
  go_upto_region 5 with (fail)
  have W1 := below_alloc (Below.refl w.heap.size w) (.cells (B.big less N) 101)
  generalize w.alloc (.cells (B.big less N) 101) = w1 at *
  go_upto_region 6 with (first | (go_at_call 75; (with_reducible refine (OB _).mono ?_); rintro e w11 ⟨rfl, hb1⟩) | (go_at_call 74; (with_reducible refine (BB _).mono ?_); rintro e w12 ⟨rfl, hb2⟩; have y8 := B.HasB.new0 w12) | ((with_reducible refine B.gateOp (.store 101 (.tmp 8) (.tmp 27)) rfl ?_); refine wpList_store_row rfl 101 (.tmp 8) (.tmp 27) rfl w12.heap.size (B.big lb D) rfl rfl 101 _ y8 (B.infoB _ _) (by rw [B.big_size, B.big_size]) (B.plainB _ _) ?_))
  have h3 := y3.lt
  have hz : w.heap.size < w12.heap.size := by have := hb1.size; have := hb2.size; omega
  have x3 := (((y3.below hb1).below hb2).alloc (.cells Try.zeroCells101 101)).setR (k := w12.heap.size) (B.big lb D) (by omega)
  have x8 := B.HasB.row y8 lb D
  have W2 := below_then W1 W1.size hb1
  have W3 := below_then W2 W2.size hb2
  have W4 := B.below_row (below_alloc W3 (.cells Try.zeroCells101 101)) (k := w12.heap.size) (by omega) (B.big lb D)
  clear W1 W2 W3 y3 y8 hb1 hb2 h3 OB BB
  generalize (w12.alloc (.cells Try.zeroCells101 101)).setRow w12.heap.size (B.big lb D) = w2 at *
  generalize w12.heap.size = d at *
  have hd := x8.lt
  go_upto_region 7 with (first | ((with_reducible refine B.gateOp (.load 99 (.tmp 29)) rfl ?_); refine B.wpLoadB rfl (.tmp 29) rfl w.heap.size N less rfl x3 ?_) | ((with_reducible refine B.gateOp (.load 99 (.tmp 31)) rfl ?_); refine B.wpLoadB rfl (.tmp 31) rfl d D lb rfl x8 ?_) | (go_at_call 76; (with_reducible refine (QU _).mono ?_); rintro e w13 ⟨rfl, hb3⟩; have y9 := (B.Has.new0 w13).alloc (.cells Try.zeroCells99 99); have y10 := (B.Has.new0 (w13.alloc (.cells Try.zeroCells99 99))).setR (k := w13.heap.size) (B.cells q) (by rw [World.size_alloc]; omega); rw [World.size_alloc] at y10) | ((with_reducible refine B.gateOp (.store 99 (.tmp 9) (.tmp 34)) rfl ?_); refine wpList_store_row rfl 99 (.tmp 9) (.tmp 34) rfl w13.heap.size (B.cells q) rfl rfl 99 _ y9 (B.infoN _) (by rw [B.size, B.size]) (B.plain _) ?_) | ((with_reducible refine B.gateOp (.store 99 (.tmp 10) (.tmp 35)) rfl ?_); refine wpList_store_row rfl 99 (.tmp 10) (.tmp 35) rfl (w13.heap.size + 1) (B.cells r) rfl rfl 99 _ y10 (B.infoN _) (by rw [B.size, B.size]) (B.plain _) ?_))
  have hg : d < w13.heap.size := by have := hb3.size; omega
  have a3 := ((((x3.below hb3).alloc (.cells Try.zeroCells99 99)).alloc (.cells Try.zeroCells99 99)).setR (k := w13.heap.size) (B.cells q) (by omega)).setR (k := w13.heap.size + 1) (B.cells r) (by omega)
  have a8 := ((((x8.below hb3).alloc (.cells Try.zeroCells99 99)).alloc (.cells Try.zeroCells99 99)).setR (k := w13.heap.size) (B.cells q) (by omega)).setR (k := w13.heap.size + 1) (B.cells r) (by omega)
  have a9 := (B.Has.row y9 q).setR (k := w13.heap.size + 1) (B.cells r) (by omega)
  have a10 := B.Has.row y10 r
  have W5 := below_then W4 W4.size hb3
  have W6 := B.below_row (B.below_row (below_alloc (below_alloc W5 (.cells Try.zeroCells99 99)) (.cells Try.zeroCells99 99)) (k := w13.heap.size) (by omega) (B.cells q)) (k := w13.heap.size + 1) (by omega) (B.cells r)
  clear W4 W5 x3 x8 y9 y10 hb3 hd QU
  generalize (((w13.alloc (.cells Try.zeroCells99 99)).alloc (.cells Try.zeroCells99 99)).setRow w13.heap.size (B.cells q)).setRow (w13.heap.size + 1) (B.cells r) = w3 at *
  generalize w13.heap.size = g at *
  have h10 := a10.lt
  have c3 := a3.cell0
  have c8 := a8.cell0
  go_upto_region 8 with (fail)
  have ll : (if less = lb then false else true) = L := by rw [HL.out]; cases less <;> cases lb <;> rfl
  have y12 := B.Has.new0 w3
  go_upto_region 10 with (first | ((with_reducible refine B.gateOp (.build 99 #[(0, .const (.int .u8 1))]) rfl ?_); refine B.wpBuild1 rfl rfl ?_) | ((with_reducible refine B.gateOp (.store 99 (.tmp 12) (.tmp 41)) rfl ?_); refine wpList_store_row rfl 99 (.tmp 12) (.tmp 41) rfl w3.heap.size (B.cells 1) rfl rfl 99 _ y12 (B.infoN _) (by rw [B.size, B.size]) (B.plain _) ?_))
  have e8 := (a8.alloc (.cells Try.zeroCells99 99)).setR (k := w3.heap.size) (B.cells 1) (by omega)
  have e9 := (a9.alloc (.cells Try.zeroCells99 99)).setR (k := w3.heap.size) (B.cells 1) (by omega)
  have e10 := (a10.alloc (.cells Try.zeroCells99 99)).setR (k := w3.heap.size) (B.cells 1) (by omega)
  have e12 := B.Has.row y12 1
  have W7 := B.below_row (below_alloc W6 (.cells Try.zeroCells99 99)) (k := w3.heap.size) (by omega) (B.cells 1)
  clear a3 a8 a9 a10 W6 y12 c3 c8
  generalize (w3.alloc (.cells Try.zeroCells99 99)).setRow w3.heap.size (B.cells 1) = w4 at *
  generalize w3.heap.size = o at *
  have ll : (!(less == lb)) = L := HL.out.symm
  rw [ll]
  clear ll h10
  have PL := fun W => lombardref02_plus.calls q 1 W
  rw [Nat.mod_eq_of_lt (lombardref02_div.more q 256 260 QL.out (by decide))] at PL
  have s1 : q + 1 < 2 ^ 260 := lombardref02_div.more q 256 260 QL.out (by decide)
  have s0 : q < 2 ^ 260 := Nat.lt_of_succ_lt s1
  have SM := fun M (h : M = q ∨ M = q + 1) W => lombardref02_small.calls L M (by rcases h with h | h <;> rw [h] <;> assumption) W
  clear s0 s1
  cases L with
  | false =>
    go_upto_region 14 with (fail)
    have uv : lombardref02_div.up 0 false N D = false := by unfold lombardref02_div.up; rw [if_pos rfl]; rfl
    have qv : lombardref02_div.Q 0 false N D = q := by unfold lombardref02_div.Q; rw [uv]; rw [if_neg (by simp), HQ.out]
    obtain ⟨M, hM⟩ : ∃ M, M = q := ⟨_, rfl⟩
    have SX := fun W => SM M (by rw [hM]; omega) W
    obtain ⟨v, hv⟩ : ∃ v, v = lombardref02_small.v false M := ⟨_, rfl⟩
    obtain ⟨k, hk⟩ : ∃ k, k = lombardref02_small.ok false M := ⟨_, rfl⟩
    have RES : Aside0 (lombardref02_div.r 0 false N D = (if k = true then v else 0) ∧ lombardref02_div.e 0 false N D = if k = true then 0 else 3) := ⟨by
      unfold lombardref02_div.r lombardref02_div.e
      rw [qv, ← hM, ← hv, ← hk]
      exact ⟨rfl, rfl⟩⟩
    rw [← hv, ← hk] at SX
    clear SM uv qv hv hk
    rw [← hM] at e9
    clear hM
    go_upto_region 16 with (fail)
    have m9 := e9
    have M7 := W7
    clear e9 e12 W7 PL
    go_upto_region 17 with (first | ((with_reducible refine B.gateOp (.load 99 (.tmp 9)) rfl ?_); refine wpList_load_row rfl 99 (.tmp 9) rfl g rfl 99 (B.cells M) (0, 0) _ m9 B.under rfl (B.infoN _) ?_) | ((with_reducible refine B.gateOp (.build 101 #[(0, .tmp 73), (1, .tmp 74)]) rfl ?_); refine B.wpBuildLQ rfl (.tmp 73) (.tmp 74) rfl false M rfl rfl ?_) | (go_at_call 79; (with_reducible refine (SX _).mono ?_); rintro e w9 ⟨rfl, hb9⟩))
    have B9 := below_then M7 M7.size hb9
    clear m9 M7 hb9 SX
    cases k with
    | true =>
      go_wp2
      go_ret2
      exact ⟨by rw [RES.out.1, RES.out.2]; rfl, B9⟩
    | false =>
      go_wp2
      go_ret2
      exact ⟨by rw [RES.out.1, RES.out.2]; rfl, B9⟩
  | true =>
    have SZ := fun W => lombardref02_size.calls r 0 (lombardref02_div.below r D 63 260 RL.out DL.out (by decide)) (@Nat.pow_pos 2 260 (by decide)) W
    by_cases c : 0 < r
    · have o1 : decide (lombardref02_size.ord r 0 > 0) = true := decide_eq_true (by unfold lombardref02_size.ord; rw [if_neg (by omega), if_pos c]; decide)
      obtain ⟨oz, hoz⟩ : ∃ z, z = lombardref02_size.ord r 0 := ⟨_, rfl⟩
      rw [← hoz] at o1
      have o2 : decide (0 < oz) = _ := o1
      have SZ2 := SZ
      rw [← hoz] at SZ2
      have CC := Aside0.mk c
      clear SZ hoz c
      go_upto_region 14 with (first | ((with_reducible refine B.gateOp (.load 99 (.tmp 10)) rfl ?_); refine B.wpLoadW (by first | rfl | (go_simp; done) | kernel_rfl) (.tmp 10) rfl (g + 1) r rfl e10 ?_) | ((with_reducible refine B.gateOp (.build 99 #[]) rfl ?_); refine B.wpBuild0 (by first | rfl | (go_simp; done) | kernel_rfl) rfl ?_) | (go_at_call 77; (with_reducible refine (SZ2 _).mono ?_); rintro e w6 ⟨rfl, hb6⟩))
      replace e9 := e9.below hb6
      replace e12 := e12.below hb6
      replace W7 := below_then W7 W7.size hb6
      have uv : lombardref02_div.up 0 true N D = true := by unfold lombardref02_div.up; rw [if_pos rfl, ← HR.out, decide_eq_true CC.out]; rfl
      have qv : lombardref02_div.Q 0 true N D = (q + 1) := by unfold lombardref02_div.Q; rw [uv]; rw [if_pos rfl, HQ.out]
      obtain ⟨M, hM⟩ : ∃ M, M = (q + 1) := ⟨_, rfl⟩
      have SX := fun W => SM M (by rw [hM]; omega) W
      obtain ⟨v, hv⟩ : ∃ v, v = lombardref02_small.v true M := ⟨_, rfl⟩
      obtain ⟨k, hk⟩ : ∃ k, k = lombardref02_small.ok true M := ⟨_, rfl⟩
      have RES : Aside0 (lombardref02_div.r 0 true N D = (if k = true then v else 0) ∧ lombardref02_div.e 0 true N D = if k = true then 0 else 3) := ⟨by
        unfold lombardref02_div.r lombardref02_div.e
        rw [qv, ← hM, ← hv, ← hk]
        exact ⟨rfl, rfl⟩⟩
      rw [← hv, ← hk] at SX
      clear SM uv qv hv hk
      rw [← hM] at PL
      clear hM
      go_upto_region 16 with (first | ((with_reducible refine B.gateOp (.load 99 (.tmp 9)) rfl ?_); refine wpList_load_row rfl 99 (.tmp 9) rfl g rfl 99 (B.cells q) (0, 0) _ e9 B.under rfl (B.infoN _) ?_) | ((with_reducible refine B.gateOp (.load 99 (.tmp 12)) rfl ?_); refine wpList_load_row rfl 99 (.tmp 12) rfl o rfl 99 (B.cells 1) (0, 0) _ e12 B.under rfl (B.infoN _) ?_) | (go_at_call 78; (with_reducible refine (PL _).mono ?_); rintro e w7 ⟨rfl, hb7⟩; have f9 := e9.below hb7) | ((with_reducible refine B.gateOp (.store 99 (.tmp 9) (.tmp 71)) rfl ?_); refine wpList_store_row rfl 99 (.tmp 9) (.tmp 71) rfl g (B.cells M) rfl rfl 99 _ f9 (B.infoN _) (by rw [B.size, B.size]) (B.plain _) ?_))
      have m9 := B.Has.row f9 M
      have M7 := B.below_row (below_then W7 W7.size hb7) (k := g) (by omega) (B.cells M)
      clear f9 hb7 e9 e12 W7 PL
      generalize w7.setRow g (B.cells M) = w8 at *
      go_upto_region 17 with (first | ((with_reducible refine B.gateOp (.load 99 (.tmp 9)) rfl ?_); refine wpList_load_row rfl 99 (.tmp 9) rfl g rfl 99 (B.cells M) (0, 0) _ m9 B.under rfl (B.infoN _) ?_) | ((with_reducible refine B.gateOp (.build 101 #[(0, .tmp 73), (1, .tmp 74)]) rfl ?_); refine B.wpBuildLQ rfl (.tmp 73) (.tmp 74) rfl true M rfl rfl ?_) | (go_at_call 79; (with_reducible refine (SX _).mono ?_); rintro e w9 ⟨rfl, hb9⟩))
      have B9 := below_then M7 M7.size hb9
      clear m9 M7 hb9 SX
      cases k with
      | true =>
        go_wp2
        go_ret2
        exact ⟨by rw [RES.out.1, RES.out.2]; rfl, B9⟩
      | false =>
        go_wp2
        go_ret2
        exact ⟨by rw [RES.out.1, RES.out.2]; rfl, B9⟩
    · have o1 : decide (lombardref02_size.ord r 0 > 0) = false := decide_eq_false (by unfold lombardref02_size.ord; rw [if_neg (by omega), if_neg c]; decide)
      obtain ⟨oz, hoz⟩ : ∃ z, z = lombardref02_size.ord r 0 := ⟨_, rfl⟩
      rw [← hoz] at o1
      have o2 : decide (0 < oz) = _ := o1
      have SZ2 := SZ
      rw [← hoz] at SZ2
      have CC := Aside0.mk c
      clear SZ hoz c
      go_upto_region 14 with (first | ((with_reducible refine B.gateOp (.load 99 (.tmp 10)) rfl ?_); refine B.wpLoadW (by first | rfl | (go_simp; done) | kernel_rfl) (.tmp 10) rfl (g + 1) r rfl e10 ?_) | ((with_reducible refine B.gateOp (.build 99 #[]) rfl ?_); refine B.wpBuild0 (by first | rfl | (go_simp; done) | kernel_rfl) rfl ?_) | (go_at_call 77; (with_reducible refine (SZ2 _).mono ?_); rintro e w6 ⟨rfl, hb6⟩))
      replace e9 := e9.below hb6
      replace e12 := e12.below hb6
      replace W7 := below_then W7 W7.size hb6
      have uv : lombardref02_div.up 0 true N D = false := by unfold lombardref02_div.up; rw [if_pos rfl, ← HR.out, decide_eq_false CC.out]; rfl
      have qv : lombardref02_div.Q 0 true N D = q := by unfold lombardref02_div.Q; rw [uv]; rw [if_neg (by simp), HQ.out]
      obtain ⟨M, hM⟩ : ∃ M, M = q := ⟨_, rfl⟩
      have SX := fun W => SM M (by rw [hM]; omega) W
      obtain ⟨v, hv⟩ : ∃ v, v = lombardref02_small.v true M := ⟨_, rfl⟩
      obtain ⟨k, hk⟩ : ∃ k, k = lombardref02_small.ok true M := ⟨_, rfl⟩
      have RES : Aside0 (lombardref02_div.r 0 true N D = (if k = true then v else 0) ∧ lombardref02_div.e 0 true N D = if k = true then 0 else 3) := ⟨by
        unfold lombardref02_div.r lombardref02_div.e
        rw [qv, ← hM, ← hv, ← hk]
        exact ⟨rfl, rfl⟩⟩
      rw [← hv, ← hk] at SX
      clear SM uv qv hv hk
      rw [← hM] at e9
      clear hM
      go_upto_region 16 with (fail)
      have m9 := e9
      have M7 := W7
      clear e9 e12 W7 PL
      go_upto_region 17 with (first | ((with_reducible refine B.gateOp (.load 99 (.tmp 9)) rfl ?_); refine wpList_load_row rfl 99 (.tmp 9) rfl g rfl 99 (B.cells M) (0, 0) _ m9 B.under rfl (B.infoN _) ?_) | ((with_reducible refine B.gateOp (.build 101 #[(0, .tmp 73), (1, .tmp 74)]) rfl ?_); refine B.wpBuildLQ rfl (.tmp 73) (.tmp 74) rfl true M rfl rfl ?_) | (go_at_call 79; (with_reducible refine (SX _).mono ?_); rintro e w9 ⟨rfl, hb9⟩))
      have B9 := below_then M7 M7.size hb9
      clear m9 M7 hb9 SX
      cases k with
      | true =>
        go_wp2
        go_ret2
        exact ⟨by rw [RES.out.1, RES.out.2]; rfl, B9⟩
      | false =>
        go_wp2
        go_ret2
        exact ⟨by rw [RES.out.1, RES.out.2]; rfl, B9⟩
set_option maxRecDepth 100000 in
set_option maxHeartbeats 8000000 in
theorem lombardref02_div.calls1 (less : Bool) (N : Nat) (hN : N < 2 ^ 256) (b : Int) (b0 : -9223372036854775808 ≤ b) (b1 : b ≤ 9223372036854775807) (bz : b ≠ 0) (w : World) : Calls Try.prog 66 #[.agg (B.big less N), .int .i64 b, .int .i64 1] w fun e w' => e = .returned (.tuple #[.int .i64 (lombardref02_div.r 1 (less != decide (b < 0)) N b.natAbs), .int .i64 (lombardref02_div.e 1 (less != decide (b < 0)) N b.natAbs)]) ∧ Below w.heap.size w w' := by
  obtain ⟨bh, bl, OB, BB⟩ : ∃ h l, (∀ W, Calls Try.prog 75 #[.int .i64 b] W fun e w' => e = .returned (.agg #[.int .i64 h, .int .u64 l]) ∧ Below W.heap.size W w') ∧ ∀ W, Calls Try.prog 74 #[.agg #[.int .i64 h, .int .u64 l]] W fun e w' => e = .returned (.agg (B.big (decide (b < 0)) b.natAbs)) ∧ Below W.heap.size W w' := ⟨_, _, fun W => B.ofCalls b W, fun W => B.bigOf b0 b1 W⟩
  have dl : b.natAbs ≤ 2 ^ 63 := by have e : (2 : Nat) ^ 63 = 9223372036854775808 := by decide
                                    rw [e]; omega
  have d0 : 0 < b.natAbs := by omega
  have qz : (b == 0) = false := by simp [bz]
  clear b0 b1 bz
  obtain ⟨D, hD⟩ : ∃ D, D = b.natAbs := ⟨_, rfl⟩
  obtain ⟨lb, hlb⟩ : ∃ l, l = decide (b < 0) := ⟨_, rfl⟩
  rw [← hD] at dl d0 BB
  rw [← hlb] at BB
  rw [← hD, ← hlb]
  clear hD hlb
  obtain ⟨L, hL⟩ : ∃ L, L = (less != lb) := ⟨_, rfl⟩
  rw [← hL]
  have HL := Aside0.mk hL
  have d256 : D < 2 ^ 256 := Nat.lt_of_le_of_lt dl (Nat.pow_lt_pow_right (by omega) (by omega))
  have n260 : N < 2 ^ 260 := Nat.lt_of_lt_of_le hN (@Nat.pow_le_pow_right 2 (by decide) 256 260 (by decide))
  have QU := fun W => lombardref02_quo.calls N D n260 d0 d256 W
  obtain ⟨q, hq⟩ : ∃ q, q = N / D := ⟨_, rfl⟩
  obtain ⟨r, hr⟩ : ∃ r, r = N % D := ⟨_, rfl⟩
  have rl : r < D := by rw [hr]; exact Nat.mod_lt N d0
  have ql : q < 2 ^ 256 := by rw [hq]; exact Nat.lt_of_le_of_lt (Nat.div_le_self N D) hN
  rw [← hq, ← hr] at QU
  have HQ := Aside0.mk hq
  have HR := Aside0.mk hr
  have DL := Aside0.mk dl
  have RL := Aside0.mk rl
  have QL := Aside0.mk ql
  have NL := Aside0.mk hN
  have D0 := Aside0.mk d0
  clear hL hN dl rl ql d0 d256 n260 hq hr
  go_enter Try.func66, Try.ntmps66
  have y3 := B.HasB.new w less N
  go_upto_region 5 with (fail)
  have W1 := below_alloc (Below.refl w.heap.size w) (.cells (B.big less N) 101)
  generalize w.alloc (.cells (B.big less N) 101) = w1 at *
  go_upto_region 6 with (first | (go_at_call 75; (with_reducible refine (OB _).mono ?_); rintro e w11 ⟨rfl, hb1⟩) | (go_at_call 74; (with_reducible refine (BB _).mono ?_); rintro e w12 ⟨rfl, hb2⟩; have y8 := B.HasB.new0 w12) | ((with_reducible refine B.gateOp (.store 101 (.tmp 8) (.tmp 27)) rfl ?_); refine wpList_store_row rfl 101 (.tmp 8) (.tmp 27) rfl w12.heap.size (B.big lb D) rfl rfl 101 _ y8 (B.infoB _ _) (by rw [B.big_size, B.big_size]) (B.plainB _ _) ?_))
  have h3 := y3.lt
  have hz : w.heap.size < w12.heap.size := by have := hb1.size; have := hb2.size; omega
  have x3 := (((y3.below hb1).below hb2).alloc (.cells Try.zeroCells101 101)).setR (k := w12.heap.size) (B.big lb D) (by omega)
  have x8 := B.HasB.row y8 lb D
  have W2 := below_then W1 W1.size hb1
  have W3 := below_then W2 W2.size hb2
  have W4 := B.below_row (below_alloc W3 (.cells Try.zeroCells101 101)) (k := w12.heap.size) (by omega) (B.big lb D)
  clear W1 W2 W3 y3 y8 hb1 hb2 h3 OB BB
  generalize (w12.alloc (.cells Try.zeroCells101 101)).setRow w12.heap.size (B.big lb D) = w2 at *
  generalize w12.heap.size = d at *
  have hd := x8.lt
  go_upto_region 7 with (first | ((with_reducible refine B.gateOp (.load 99 (.tmp 29)) rfl ?_); refine B.wpLoadB rfl (.tmp 29) rfl w.heap.size N less rfl x3 ?_) | ((with_reducible refine B.gateOp (.load 99 (.tmp 31)) rfl ?_); refine B.wpLoadB rfl (.tmp 31) rfl d D lb rfl x8 ?_) | (go_at_call 76; (with_reducible refine (QU _).mono ?_); rintro e w13 ⟨rfl, hb3⟩; have y9 := (B.Has.new0 w13).alloc (.cells Try.zeroCells99 99); have y10 := (B.Has.new0 (w13.alloc (.cells Try.zeroCells99 99))).setR (k := w13.heap.size) (B.cells q) (by rw [World.size_alloc]; omega); rw [World.size_alloc] at y10) | ((with_reducible refine B.gateOp (.store 99 (.tmp 9) (.tmp 34)) rfl ?_); refine wpList_store_row rfl 99 (.tmp 9) (.tmp 34) rfl w13.heap.size (B.cells q) rfl rfl 99 _ y9 (B.infoN _) (by rw [B.size, B.size]) (B.plain _) ?_) | ((with_reducible refine B.gateOp (.store 99 (.tmp 10) (.tmp 35)) rfl ?_); refine wpList_store_row rfl 99 (.tmp 10) (.tmp 35) rfl (w13.heap.size + 1) (B.cells r) rfl rfl 99 _ y10 (B.infoN _) (by rw [B.size, B.size]) (B.plain _) ?_))
  have hg : d < w13.heap.size := by have := hb3.size; omega
  have a3 := ((((x3.below hb3).alloc (.cells Try.zeroCells99 99)).alloc (.cells Try.zeroCells99 99)).setR (k := w13.heap.size) (B.cells q) (by omega)).setR (k := w13.heap.size + 1) (B.cells r) (by omega)
  have a8 := ((((x8.below hb3).alloc (.cells Try.zeroCells99 99)).alloc (.cells Try.zeroCells99 99)).setR (k := w13.heap.size) (B.cells q) (by omega)).setR (k := w13.heap.size + 1) (B.cells r) (by omega)
  have a9 := (B.Has.row y9 q).setR (k := w13.heap.size + 1) (B.cells r) (by omega)
  have a10 := B.Has.row y10 r
  have W5 := below_then W4 W4.size hb3
  have W6 := B.below_row (B.below_row (below_alloc (below_alloc W5 (.cells Try.zeroCells99 99)) (.cells Try.zeroCells99 99)) (k := w13.heap.size) (by omega) (B.cells q)) (k := w13.heap.size + 1) (by omega) (B.cells r)
  clear W4 W5 x3 x8 y9 y10 hb3 hd QU
  generalize (((w13.alloc (.cells Try.zeroCells99 99)).alloc (.cells Try.zeroCells99 99)).setRow w13.heap.size (B.cells q)).setRow (w13.heap.size + 1) (B.cells r) = w3 at *
  generalize w13.heap.size = g at *
  have h10 := a10.lt
  have c3 := a3.cell0
  have c8 := a8.cell0
  go_upto_region 8 with (fail)
  have ll : (if less = lb then false else true) = L := by rw [HL.out]; cases less <;> cases lb <;> rfl
  have y12 := B.Has.new0 w3
  go_upto_region 10 with (first | ((with_reducible refine B.gateOp (.build 99 #[(0, .const (.int .u8 1))]) rfl ?_); refine B.wpBuild1 rfl rfl ?_) | ((with_reducible refine B.gateOp (.store 99 (.tmp 12) (.tmp 41)) rfl ?_); refine wpList_store_row rfl 99 (.tmp 12) (.tmp 41) rfl w3.heap.size (B.cells 1) rfl rfl 99 _ y12 (B.infoN _) (by rw [B.size, B.size]) (B.plain _) ?_))
  have e8 := (a8.alloc (.cells Try.zeroCells99 99)).setR (k := w3.heap.size) (B.cells 1) (by omega)
  have e9 := (a9.alloc (.cells Try.zeroCells99 99)).setR (k := w3.heap.size) (B.cells 1) (by omega)
  have e10 := (a10.alloc (.cells Try.zeroCells99 99)).setR (k := w3.heap.size) (B.cells 1) (by omega)
  have e12 := B.Has.row y12 1
  have W7 := B.below_row (below_alloc W6 (.cells Try.zeroCells99 99)) (k := w3.heap.size) (by omega) (B.cells 1)
  clear a3 a8 a9 a10 W6 y12 c3 c8
  generalize (w3.alloc (.cells Try.zeroCells99 99)).setRow w3.heap.size (B.cells 1) = w4 at *
  generalize w3.heap.size = o at *
  have ll : (!(less == lb)) = L := HL.out.symm
  rw [ll]
  clear ll h10
  have PL := fun W => lombardref02_plus.calls q 1 W
  rw [Nat.mod_eq_of_lt (lombardref02_div.more q 256 260 QL.out (by decide))] at PL
  have s1 : q + 1 < 2 ^ 260 := lombardref02_div.more q 256 260 QL.out (by decide)
  have s0 : q < 2 ^ 260 := Nat.lt_of_succ_lt s1
  have SM := fun M (h : M = q ∨ M = q + 1) W => lombardref02_small.calls L M (by rcases h with h | h <;> rw [h] <;> assumption) W
  clear s0 s1
  have d260 : D < 2 ^ 260 := Nat.lt_of_le_of_lt DL.out (@Nat.pow_lt_pow_right 2 63 260 (by decide) (by decide))
  have r2 : r + r < 2 ^ 260 := lombardref02_div.twice r D 63 260 RL.out DL.out (by decide)
  have PR := fun W => lombardref02_plus.calls r r W
  rw [Nat.mod_eq_of_lt r2] at PR
  have SZ := fun W => lombardref02_size.calls (r + r) D r2 d260 W
  obtain ⟨R2, hR2⟩ : ∃ R2, R2 = r + r := ⟨_, rfl⟩
  rw [← hR2] at PR SZ
  have U0 : Aside0 (lombardref02_div.up 1 L N D = (decide (D < R2) || (decide (R2 = D) && decide (q % 2 = 1)))) := ⟨by unfold lombardref02_div.up; rw [if_neg (by decide), ← HR.out, ← HQ.out, hR2]⟩
  clear r2 hR2 d260
  rcases Nat.lt_trichotomy R2 D with lt | eq | gt
  · have ord : lombardref02_size.ord R2 D = -1 := by unfold lombardref02_size.ord; rw [if_pos lt]
    have UV : Aside0 (lombardref02_div.up 1 L N D = false) := ⟨by rw [U0.out, decide_eq_false (show ¬ D < R2 by omega), decide_eq_false (show ¬ R2 = D by omega)]; rfl⟩
    clear lt U0
    rw [ord] at SZ
    clear ord
    go_upto_region 12 with (fail)
    refine wp_region_held (S := fun W => B.HasC W (g + 1) (B.cells r) ∧ B.HasB W d lb D) (by kernel_rfl) ?_
    refine wpAnyH_take (i := 0) (v := .agg (B.cells r)) rfl (by kernel_rfl) (by kernel_rfl) (by kernel_rfl) (fun _ _ _ h => h) (Or.inl ⟨by rfl, fun W hS => B.load (.tmp 10) rfl rfl hS.1⟩) ⟨e10, e8⟩ ?_
    refine wpAnyH_take (i := 1) (v := .agg (B.cells r)) rfl (by kernel_rfl) (by kernel_rfl) (by kernel_rfl) (fun _ _ _ h => h) (Or.inl ⟨by rfl, fun W hS => B.load (.tmp 10) rfl rfl hS.1⟩) ⟨e10, e8⟩ ?_
    refine wpAnyH_take (i := 3) (v := .pointer (some ⟨d, 1, none⟩)) rfl (by kernel_rfl) (by kernel_rfl) (by kernel_rfl) (fun _ _ _ h => h) (Or.inl ⟨by rfl, fun W hS => by go_simp⟩) ⟨e10, e8⟩ ?_
    refine wpAnyH_take (i := 4) (v := .agg (B.cells D)) rfl (by kernel_rfl) (by kernel_rfl) (by kernel_rfl) (fun _ _ _ h => h) (Or.inl ⟨by rfl, fun W hS => B.loadB (.tmp 54) rfl rfl hS.2⟩) ⟨e10, e8⟩ ?_
    refine wpAnyH_all (rs := [2]) (by kernel_rfl) (by simp) fun i hi => ?_
    obtain rfl : i = 2 := by simpa using hi
    refine B.opCall (i := 2) rfl rfl (.agg (B.cells r)) (.agg (B.cells r)) 78 _ (.tmp 51) (.tmp 52) _ Try.func78 rfl rfl rfl rfl rfl ?_
    refine (PR _).mono ?_
    rintro e w6 ⟨rfl, hb6⟩
    refine ⟨_, rfl, ?_⟩
    have t8 : B.HasB w6 d lb D := B.HasB.below (w := { w4 with drawn := w4.drawn + 1 }) e8 hb6
    have t9 : B.Has w6 g q := B.Has.below (w := { w4 with drawn := w4.drawn + 1 }) e9 hb6
    have t10 : B.Has w6 (g + 1) r := B.Has.below (w := { w4 with drawn := w4.drawn + 1 }) e10 hb6
    have t12 : B.Has w6 o 1 := B.Has.below (w := { w4 with drawn := w4.drawn + 1 }) e12 hb6
    have V7 := below_then W7.drew W7.drew.size hb6
    refine ⟨⟨t10, t8⟩, ?_⟩
    clear e8 e9 e10 e12 W7 hb6
    refine wpAnyH_all (rs := [5]) (by kernel_rfl) (by simp) fun i hi => ?_
    obtain rfl : i = 5 := by simpa using hi
    refine B.opCall (i := 5) rfl rfl (.agg (B.cells R2)) (.agg (B.cells D)) 77 _ (.tmp 53) (.tmp 55) _ Try.func77 rfl rfl rfl rfl rfl ?_
    refine (SZ _).mono ?_
    rintro e w7 ⟨rfl, hb7⟩
    refine ⟨_, rfl, ?_⟩
    have e9 := t9.below hb7
    have e12 := t12.below hb7
    have W7 := below_then V7 V7.size hb7
    refine ⟨⟨t10.below hb7, t8.below hb7⟩, ?_⟩
    refine wpAnyH_take (i := 6) (v := .int .i64 (-1)) rfl (by kernel_rfl) (by kernel_rfl) (by kernel_rfl) (fun _ _ _ h => h) (Or.inl ⟨by rfl, fun W hS => by go_simp⟩) ⟨t10.below hb7, t8.below hb7⟩ ?_
    refine wpAnyH_done (by kernel_rfl) ?_ _
    clear t8 t9 t10 t12 V7 hb7 PR SZ
    go_upto_region 14 with (fail)
    have uv : lombardref02_div.up 1 L N D = false := by exact UV.out
    have qv : lombardref02_div.Q 1 L N D = q := by unfold lombardref02_div.Q; rw [uv]; rw [if_neg (by simp), HQ.out]
    obtain ⟨M, hM⟩ : ∃ M, M = q := ⟨_, rfl⟩
    have SX := fun W => SM M (by rw [hM]; omega) W
    obtain ⟨v, hv⟩ : ∃ v, v = lombardref02_small.v L M := ⟨_, rfl⟩
    obtain ⟨k, hk⟩ : ∃ k, k = lombardref02_small.ok L M := ⟨_, rfl⟩
    have RES : Aside0 (lombardref02_div.r 1 L N D = (if k = true then v else 0) ∧ lombardref02_div.e 1 L N D = if k = true then 0 else 3) := ⟨by
      unfold lombardref02_div.r lombardref02_div.e
      rw [qv, ← hM, ← hv, ← hk]
      exact ⟨rfl, rfl⟩⟩
    rw [← hv, ← hk] at SX
    clear SM uv qv hv hk
    rw [← hM] at e9
    clear hM
    go_upto_region 16 with (fail)
    have m9 := e9
    have M7 := W7
    clear e9 e12 W7 PL
    go_upto_region 17 with (first | ((with_reducible refine B.gateOp (.load 99 (.tmp 9)) rfl ?_); refine wpList_load_row rfl 99 (.tmp 9) rfl g rfl 99 (B.cells M) (0, 0) _ m9 B.under rfl (B.infoN _) ?_) | ((with_reducible refine B.gateOp (.build 101 #[(0, .tmp 73), (1, .tmp 74)]) rfl ?_); refine B.wpBuildLQ rfl (.tmp 73) (.tmp 74) rfl L M rfl rfl ?_) | (go_at_call 79; (with_reducible refine (SX _).mono ?_); rintro e w9 ⟨rfl, hb9⟩))
    have B9 := below_then M7 M7.size hb9
    clear m9 M7 hb9 SX
    cases k with
    | true =>
      go_wp2
      go_ret2
      exact ⟨by rw [RES.out.1, RES.out.2]; rfl, B9⟩
    | false =>
      go_wp2
      go_ret2
      exact ⟨by rw [RES.out.1, RES.out.2]; rfl, B9⟩
  · have ord : lombardref02_size.ord R2 D = 0 := by unfold lombardref02_size.ord; rw [if_neg (by omega), if_neg (by omega)]
    by_cases odd : q % 2 = 1
    · have UV : Aside0 (lombardref02_div.up 1 L N D = true) := ⟨by rw [U0.out, decide_eq_true eq, decide_eq_true odd]; simp⟩
      have bq : B.bit q 0 = 1 := by unfold B.bit Go.Proofs.Ytalnlphinlfenaa.BigMath.bitN; rw [Nat.pow_zero, Nat.div_one, odd]; rfl
      clear eq U0 odd
      rw [ord] at SZ
      clear ord
      go_upto_region 12 with (fail)
      refine wp_region_held (S := fun W => B.HasC W (g + 1) (B.cells r) ∧ B.HasB W d lb D) (by kernel_rfl) ?_
      refine wpAnyH_take (i := 0) (v := .agg (B.cells r)) rfl (by kernel_rfl) (by kernel_rfl) (by kernel_rfl) (fun _ _ _ h => h) (Or.inl ⟨by rfl, fun W hS => B.load (.tmp 10) rfl rfl hS.1⟩) ⟨e10, e8⟩ ?_
      refine wpAnyH_take (i := 1) (v := .agg (B.cells r)) rfl (by kernel_rfl) (by kernel_rfl) (by kernel_rfl) (fun _ _ _ h => h) (Or.inl ⟨by rfl, fun W hS => B.load (.tmp 10) rfl rfl hS.1⟩) ⟨e10, e8⟩ ?_
      refine wpAnyH_take (i := 3) (v := .pointer (some ⟨d, 1, none⟩)) rfl (by kernel_rfl) (by kernel_rfl) (by kernel_rfl) (fun _ _ _ h => h) (Or.inl ⟨by rfl, fun W hS => by go_simp⟩) ⟨e10, e8⟩ ?_
      refine wpAnyH_take (i := 4) (v := .agg (B.cells D)) rfl (by kernel_rfl) (by kernel_rfl) (by kernel_rfl) (fun _ _ _ h => h) (Or.inl ⟨by rfl, fun W hS => B.loadB (.tmp 54) rfl rfl hS.2⟩) ⟨e10, e8⟩ ?_
      refine wpAnyH_all (rs := [2]) (by kernel_rfl) (by simp) fun i hi => ?_
      obtain rfl : i = 2 := by simpa using hi
      refine B.opCall (i := 2) rfl rfl (.agg (B.cells r)) (.agg (B.cells r)) 78 _ (.tmp 51) (.tmp 52) _ Try.func78 rfl rfl rfl rfl rfl ?_
      refine (PR _).mono ?_
      rintro e w6 ⟨rfl, hb6⟩
      refine ⟨_, rfl, ?_⟩
      have t8 : B.HasB w6 d lb D := B.HasB.below (w := { w4 with drawn := w4.drawn + 1 }) e8 hb6
      have t9 : B.Has w6 g q := B.Has.below (w := { w4 with drawn := w4.drawn + 1 }) e9 hb6
      have t10 : B.Has w6 (g + 1) r := B.Has.below (w := { w4 with drawn := w4.drawn + 1 }) e10 hb6
      have t12 : B.Has w6 o 1 := B.Has.below (w := { w4 with drawn := w4.drawn + 1 }) e12 hb6
      have V7 := below_then W7.drew W7.drew.size hb6
      refine ⟨⟨t10, t8⟩, ?_⟩
      clear e8 e9 e10 e12 W7 hb6
      refine wpAnyH_all (rs := [5]) (by kernel_rfl) (by simp) fun i hi => ?_
      obtain rfl : i = 5 := by simpa using hi
      refine B.opCall (i := 5) rfl rfl (.agg (B.cells R2)) (.agg (B.cells D)) 77 _ (.tmp 53) (.tmp 55) _ Try.func77 rfl rfl rfl rfl rfl ?_
      refine (SZ _).mono ?_
      rintro e w7 ⟨rfl, hb7⟩
      refine ⟨_, rfl, ?_⟩
      have e9 := t9.below hb7
      have e12 := t12.below hb7
      have W7 := below_then V7 V7.size hb7
      refine ⟨⟨t10.below hb7, t8.below hb7⟩, ?_⟩
      refine wpAnyH_take (i := 6) (v := .int .i64 (0)) rfl (by kernel_rfl) (by kernel_rfl) (by kernel_rfl) (fun _ _ _ h => h) (Or.inl ⟨by rfl, fun W hS => by go_simp⟩) ⟨t10.below hb7, t8.below hb7⟩ ?_
      refine wpAnyH_done (by kernel_rfl) ?_ _
      clear t8 t9 t10 t12 V7 hb7 PR SZ
      have x9 := B.ix g 0 (by omega)
      have c9 := e9.cell (i := 0) (by omega)
      rw [bq] at c9
      clear bq
      go_upto_region 14 with (fail)
      clear x9 c9
      have uv : lombardref02_div.up 1 L N D = true := by exact UV.out
      have qv : lombardref02_div.Q 1 L N D = (q + 1) := by unfold lombardref02_div.Q; rw [uv]; rw [if_pos rfl, HQ.out]
      obtain ⟨M, hM⟩ : ∃ M, M = (q + 1) := ⟨_, rfl⟩
      have SX := fun W => SM M (by rw [hM]; omega) W
      obtain ⟨v, hv⟩ : ∃ v, v = lombardref02_small.v L M := ⟨_, rfl⟩
      obtain ⟨k, hk⟩ : ∃ k, k = lombardref02_small.ok L M := ⟨_, rfl⟩
      have RES : Aside0 (lombardref02_div.r 1 L N D = (if k = true then v else 0) ∧ lombardref02_div.e 1 L N D = if k = true then 0 else 3) := ⟨by
        unfold lombardref02_div.r lombardref02_div.e
        rw [qv, ← hM, ← hv, ← hk]
        exact ⟨rfl, rfl⟩⟩
      rw [← hv, ← hk] at SX
      clear SM uv qv hv hk
      rw [← hM] at PL
      clear hM
      go_upto_region 16 with (first | ((with_reducible refine B.gateOp (.load 99 (.tmp 9)) rfl ?_); refine wpList_load_row rfl 99 (.tmp 9) rfl g rfl 99 (B.cells q) (0, 0) _ e9 B.under rfl (B.infoN _) ?_) | ((with_reducible refine B.gateOp (.load 99 (.tmp 12)) rfl ?_); refine wpList_load_row rfl 99 (.tmp 12) rfl o rfl 99 (B.cells 1) (0, 0) _ e12 B.under rfl (B.infoN _) ?_) | (go_at_call 78; (with_reducible refine (PL _).mono ?_); rintro e w7 ⟨rfl, hb7⟩; have f9 := e9.below hb7) | ((with_reducible refine B.gateOp (.store 99 (.tmp 9) (.tmp 71)) rfl ?_); refine wpList_store_row rfl 99 (.tmp 9) (.tmp 71) rfl g (B.cells M) rfl rfl 99 _ f9 (B.infoN _) (by rw [B.size, B.size]) (B.plain _) ?_))
      have m9 := B.Has.row f9 M
      have M7 := B.below_row (below_then W7 W7.size hb7) (k := g) (by omega) (B.cells M)
      clear f9 hb7 e9 e12 W7 PL
      generalize w7.setRow g (B.cells M) = w8 at *
      go_upto_region 17 with (first | ((with_reducible refine B.gateOp (.load 99 (.tmp 9)) rfl ?_); refine wpList_load_row rfl 99 (.tmp 9) rfl g rfl 99 (B.cells M) (0, 0) _ m9 B.under rfl (B.infoN _) ?_) | ((with_reducible refine B.gateOp (.build 101 #[(0, .tmp 73), (1, .tmp 74)]) rfl ?_); refine B.wpBuildLQ rfl (.tmp 73) (.tmp 74) rfl L M rfl rfl ?_) | (go_at_call 79; (with_reducible refine (SX _).mono ?_); rintro e w9 ⟨rfl, hb9⟩))
      have B9 := below_then M7 M7.size hb9
      clear m9 M7 hb9 SX
      cases k with
      | true =>
        go_wp2
        go_ret2
        exact ⟨by rw [RES.out.1, RES.out.2]; rfl, B9⟩
      | false =>
        go_wp2
        go_ret2
        exact ⟨by rw [RES.out.1, RES.out.2]; rfl, B9⟩
    · have UV : Aside0 (lombardref02_div.up 1 L N D = false) := ⟨by rw [U0.out, decide_eq_false odd, decide_eq_false (show ¬ D < R2 by omega)]; simp⟩
      have bq : B.bit q 0 = 0 := by unfold B.bit Go.Proofs.Ytalnlphinlfenaa.BigMath.bitN; rw [Nat.pow_zero, Nat.div_one, show q % 2 = 0 by omega]; rfl
      clear eq U0 odd
      rw [ord] at SZ
      clear ord
      go_upto_region 12 with (fail)
      refine wp_region_held (S := fun W => B.HasC W (g + 1) (B.cells r) ∧ B.HasB W d lb D) (by kernel_rfl) ?_
      refine wpAnyH_take (i := 0) (v := .agg (B.cells r)) rfl (by kernel_rfl) (by kernel_rfl) (by kernel_rfl) (fun _ _ _ h => h) (Or.inl ⟨by rfl, fun W hS => B.load (.tmp 10) rfl rfl hS.1⟩) ⟨e10, e8⟩ ?_
      refine wpAnyH_take (i := 1) (v := .agg (B.cells r)) rfl (by kernel_rfl) (by kernel_rfl) (by kernel_rfl) (fun _ _ _ h => h) (Or.inl ⟨by rfl, fun W hS => B.load (.tmp 10) rfl rfl hS.1⟩) ⟨e10, e8⟩ ?_
      refine wpAnyH_take (i := 3) (v := .pointer (some ⟨d, 1, none⟩)) rfl (by kernel_rfl) (by kernel_rfl) (by kernel_rfl) (fun _ _ _ h => h) (Or.inl ⟨by rfl, fun W hS => by go_simp⟩) ⟨e10, e8⟩ ?_
      refine wpAnyH_take (i := 4) (v := .agg (B.cells D)) rfl (by kernel_rfl) (by kernel_rfl) (by kernel_rfl) (fun _ _ _ h => h) (Or.inl ⟨by rfl, fun W hS => B.loadB (.tmp 54) rfl rfl hS.2⟩) ⟨e10, e8⟩ ?_
      refine wpAnyH_all (rs := [2]) (by kernel_rfl) (by simp) fun i hi => ?_
      obtain rfl : i = 2 := by simpa using hi
      refine B.opCall (i := 2) rfl rfl (.agg (B.cells r)) (.agg (B.cells r)) 78 _ (.tmp 51) (.tmp 52) _ Try.func78 rfl rfl rfl rfl rfl ?_
      refine (PR _).mono ?_
      rintro e w6 ⟨rfl, hb6⟩
      refine ⟨_, rfl, ?_⟩
      have t8 : B.HasB w6 d lb D := B.HasB.below (w := { w4 with drawn := w4.drawn + 1 }) e8 hb6
      have t9 : B.Has w6 g q := B.Has.below (w := { w4 with drawn := w4.drawn + 1 }) e9 hb6
      have t10 : B.Has w6 (g + 1) r := B.Has.below (w := { w4 with drawn := w4.drawn + 1 }) e10 hb6
      have t12 : B.Has w6 o 1 := B.Has.below (w := { w4 with drawn := w4.drawn + 1 }) e12 hb6
      have V7 := below_then W7.drew W7.drew.size hb6
      refine ⟨⟨t10, t8⟩, ?_⟩
      clear e8 e9 e10 e12 W7 hb6
      refine wpAnyH_all (rs := [5]) (by kernel_rfl) (by simp) fun i hi => ?_
      obtain rfl : i = 5 := by simpa using hi
      refine B.opCall (i := 5) rfl rfl (.agg (B.cells R2)) (.agg (B.cells D)) 77 _ (.tmp 53) (.tmp 55) _ Try.func77 rfl rfl rfl rfl rfl ?_
      refine (SZ _).mono ?_
      rintro e w7 ⟨rfl, hb7⟩
      refine ⟨_, rfl, ?_⟩
      have e9 := t9.below hb7
      have e12 := t12.below hb7
      have W7 := below_then V7 V7.size hb7
      refine ⟨⟨t10.below hb7, t8.below hb7⟩, ?_⟩
      refine wpAnyH_take (i := 6) (v := .int .i64 (0)) rfl (by kernel_rfl) (by kernel_rfl) (by kernel_rfl) (fun _ _ _ h => h) (Or.inl ⟨by rfl, fun W hS => by go_simp⟩) ⟨t10.below hb7, t8.below hb7⟩ ?_
      refine wpAnyH_done (by kernel_rfl) ?_ _
      clear t8 t9 t10 t12 V7 hb7 PR SZ
      have x9 := B.ix g 0 (by omega)
      have c9 := e9.cell (i := 0) (by omega)
      rw [bq] at c9
      clear bq
      go_upto_region 14 with (fail)
      clear x9 c9
      have uv : lombardref02_div.up 1 L N D = false := by exact UV.out
      have qv : lombardref02_div.Q 1 L N D = q := by unfold lombardref02_div.Q; rw [uv]; rw [if_neg (by simp), HQ.out]
      obtain ⟨M, hM⟩ : ∃ M, M = q := ⟨_, rfl⟩
      have SX := fun W => SM M (by rw [hM]; omega) W
      obtain ⟨v, hv⟩ : ∃ v, v = lombardref02_small.v L M := ⟨_, rfl⟩
      obtain ⟨k, hk⟩ : ∃ k, k = lombardref02_small.ok L M := ⟨_, rfl⟩
      have RES : Aside0 (lombardref02_div.r 1 L N D = (if k = true then v else 0) ∧ lombardref02_div.e 1 L N D = if k = true then 0 else 3) := ⟨by
        unfold lombardref02_div.r lombardref02_div.e
        rw [qv, ← hM, ← hv, ← hk]
        exact ⟨rfl, rfl⟩⟩
      rw [← hv, ← hk] at SX
      clear SM uv qv hv hk
      rw [← hM] at e9
      clear hM
      go_upto_region 16 with (fail)
      have m9 := e9
      have M7 := W7
      clear e9 e12 W7 PL
      go_upto_region 17 with (first | ((with_reducible refine B.gateOp (.load 99 (.tmp 9)) rfl ?_); refine wpList_load_row rfl 99 (.tmp 9) rfl g rfl 99 (B.cells M) (0, 0) _ m9 B.under rfl (B.infoN _) ?_) | ((with_reducible refine B.gateOp (.build 101 #[(0, .tmp 73), (1, .tmp 74)]) rfl ?_); refine B.wpBuildLQ rfl (.tmp 73) (.tmp 74) rfl L M rfl rfl ?_) | (go_at_call 79; (with_reducible refine (SX _).mono ?_); rintro e w9 ⟨rfl, hb9⟩))
      have B9 := below_then M7 M7.size hb9
      clear m9 M7 hb9 SX
      cases k with
      | true =>
        go_wp2
        go_ret2
        exact ⟨by rw [RES.out.1, RES.out.2]; rfl, B9⟩
      | false =>
        go_wp2
        go_ret2
        exact ⟨by rw [RES.out.1, RES.out.2]; rfl, B9⟩
  · have ord : lombardref02_size.ord R2 D = 1 := by unfold lombardref02_size.ord; rw [if_neg (by omega), if_pos gt]
    have UV : Aside0 (lombardref02_div.up 1 L N D = true) := ⟨by rw [U0.out, decide_eq_true gt]; rfl⟩
    clear gt U0
    rw [ord] at SZ
    clear ord
    go_upto_region 12 with (fail)
    refine wp_region_held (S := fun W => B.HasC W (g + 1) (B.cells r) ∧ B.HasB W d lb D) (by kernel_rfl) ?_
    refine wpAnyH_take (i := 0) (v := .agg (B.cells r)) rfl (by kernel_rfl) (by kernel_rfl) (by kernel_rfl) (fun _ _ _ h => h) (Or.inl ⟨by rfl, fun W hS => B.load (.tmp 10) rfl rfl hS.1⟩) ⟨e10, e8⟩ ?_
    refine wpAnyH_take (i := 1) (v := .agg (B.cells r)) rfl (by kernel_rfl) (by kernel_rfl) (by kernel_rfl) (fun _ _ _ h => h) (Or.inl ⟨by rfl, fun W hS => B.load (.tmp 10) rfl rfl hS.1⟩) ⟨e10, e8⟩ ?_
    refine wpAnyH_take (i := 3) (v := .pointer (some ⟨d, 1, none⟩)) rfl (by kernel_rfl) (by kernel_rfl) (by kernel_rfl) (fun _ _ _ h => h) (Or.inl ⟨by rfl, fun W hS => by go_simp⟩) ⟨e10, e8⟩ ?_
    refine wpAnyH_take (i := 4) (v := .agg (B.cells D)) rfl (by kernel_rfl) (by kernel_rfl) (by kernel_rfl) (fun _ _ _ h => h) (Or.inl ⟨by rfl, fun W hS => B.loadB (.tmp 54) rfl rfl hS.2⟩) ⟨e10, e8⟩ ?_
    refine wpAnyH_all (rs := [2]) (by kernel_rfl) (by simp) fun i hi => ?_
    obtain rfl : i = 2 := by simpa using hi
    refine B.opCall (i := 2) rfl rfl (.agg (B.cells r)) (.agg (B.cells r)) 78 _ (.tmp 51) (.tmp 52) _ Try.func78 rfl rfl rfl rfl rfl ?_
    refine (PR _).mono ?_
    rintro e w6 ⟨rfl, hb6⟩
    refine ⟨_, rfl, ?_⟩
    have t8 : B.HasB w6 d lb D := B.HasB.below (w := { w4 with drawn := w4.drawn + 1 }) e8 hb6
    have t9 : B.Has w6 g q := B.Has.below (w := { w4 with drawn := w4.drawn + 1 }) e9 hb6
    have t10 : B.Has w6 (g + 1) r := B.Has.below (w := { w4 with drawn := w4.drawn + 1 }) e10 hb6
    have t12 : B.Has w6 o 1 := B.Has.below (w := { w4 with drawn := w4.drawn + 1 }) e12 hb6
    have V7 := below_then W7.drew W7.drew.size hb6
    refine ⟨⟨t10, t8⟩, ?_⟩
    clear e8 e9 e10 e12 W7 hb6
    refine wpAnyH_all (rs := [5]) (by kernel_rfl) (by simp) fun i hi => ?_
    obtain rfl : i = 5 := by simpa using hi
    refine B.opCall (i := 5) rfl rfl (.agg (B.cells R2)) (.agg (B.cells D)) 77 _ (.tmp 53) (.tmp 55) _ Try.func77 rfl rfl rfl rfl rfl ?_
    refine (SZ _).mono ?_
    rintro e w7 ⟨rfl, hb7⟩
    refine ⟨_, rfl, ?_⟩
    have e9 := t9.below hb7
    have e12 := t12.below hb7
    have W7 := below_then V7 V7.size hb7
    refine ⟨⟨t10.below hb7, t8.below hb7⟩, ?_⟩
    refine wpAnyH_take (i := 6) (v := .int .i64 (1)) rfl (by kernel_rfl) (by kernel_rfl) (by kernel_rfl) (fun _ _ _ h => h) (Or.inl ⟨by rfl, fun W hS => by go_simp⟩) ⟨t10.below hb7, t8.below hb7⟩ ?_
    refine wpAnyH_done (by kernel_rfl) ?_ _
    clear t8 t9 t10 t12 V7 hb7 PR SZ
    go_upto_region 14 with (fail)
    have uv : lombardref02_div.up 1 L N D = true := by exact UV.out
    have qv : lombardref02_div.Q 1 L N D = (q + 1) := by unfold lombardref02_div.Q; rw [uv]; rw [if_pos rfl, HQ.out]
    obtain ⟨M, hM⟩ : ∃ M, M = (q + 1) := ⟨_, rfl⟩
    have SX := fun W => SM M (by rw [hM]; omega) W
    obtain ⟨v, hv⟩ : ∃ v, v = lombardref02_small.v L M := ⟨_, rfl⟩
    obtain ⟨k, hk⟩ : ∃ k, k = lombardref02_small.ok L M := ⟨_, rfl⟩
    have RES : Aside0 (lombardref02_div.r 1 L N D = (if k = true then v else 0) ∧ lombardref02_div.e 1 L N D = if k = true then 0 else 3) := ⟨by
      unfold lombardref02_div.r lombardref02_div.e
      rw [qv, ← hM, ← hv, ← hk]
      exact ⟨rfl, rfl⟩⟩
    rw [← hv, ← hk] at SX
    clear SM uv qv hv hk
    rw [← hM] at PL
    clear hM
    go_upto_region 16 with (first | ((with_reducible refine B.gateOp (.load 99 (.tmp 9)) rfl ?_); refine wpList_load_row rfl 99 (.tmp 9) rfl g rfl 99 (B.cells q) (0, 0) _ e9 B.under rfl (B.infoN _) ?_) | ((with_reducible refine B.gateOp (.load 99 (.tmp 12)) rfl ?_); refine wpList_load_row rfl 99 (.tmp 12) rfl o rfl 99 (B.cells 1) (0, 0) _ e12 B.under rfl (B.infoN _) ?_) | (go_at_call 78; (with_reducible refine (PL _).mono ?_); rintro e w7 ⟨rfl, hb7⟩; have f9 := e9.below hb7) | ((with_reducible refine B.gateOp (.store 99 (.tmp 9) (.tmp 71)) rfl ?_); refine wpList_store_row rfl 99 (.tmp 9) (.tmp 71) rfl g (B.cells M) rfl rfl 99 _ f9 (B.infoN _) (by rw [B.size, B.size]) (B.plain _) ?_))
    have m9 := B.Has.row f9 M
    have M7 := B.below_row (below_then W7 W7.size hb7) (k := g) (by omega) (B.cells M)
    clear f9 hb7 e9 e12 W7 PL
    generalize w7.setRow g (B.cells M) = w8 at *
    go_upto_region 17 with (first | ((with_reducible refine B.gateOp (.load 99 (.tmp 9)) rfl ?_); refine wpList_load_row rfl 99 (.tmp 9) rfl g rfl 99 (B.cells M) (0, 0) _ m9 B.under rfl (B.infoN _) ?_) | ((with_reducible refine B.gateOp (.build 101 #[(0, .tmp 73), (1, .tmp 74)]) rfl ?_); refine B.wpBuildLQ rfl (.tmp 73) (.tmp 74) rfl L M rfl rfl ?_) | (go_at_call 79; (with_reducible refine (SX _).mono ?_); rintro e w9 ⟨rfl, hb9⟩))
    have B9 := below_then M7 M7.size hb9
    clear m9 M7 hb9 SX
    cases k with
    | true =>
      go_wp2
      go_ret2
      exact ⟨by rw [RES.out.1, RES.out.2]; rfl, B9⟩
    | false =>
      go_wp2
      go_ret2
      exact ⟨by rw [RES.out.1, RES.out.2]; rfl, B9⟩
set_option maxRecDepth 100000 in
set_option maxHeartbeats 8000000 in
theorem lombardref02_div.callsW (less : Bool) (N : Nat) (b way : Int) (h0 : way ≠ 0) (h1 : way ≠ 1) (w : World) : Calls Try.prog 66 #[.agg (B.big less N), .int .i64 b, .int .i64 way] w fun e w' => e = .returned (.tuple #[.int .i64 0, .int .i64 2]) ∧ Below w.heap.size w w' := by
  have q0 : (way != 0) = true := by simp [h0]
  have q1 : (way != 1) = true := by simp [h1]
  clear h0 h1
  have W1 := below_alloc (Below.refl w.heap.size w) (.cells (B.big less N) 101)
  go_enter Try.func66, Try.ntmps66
  go_wp2
  go_ret2
  exact ⟨rfl, W1⟩
set_option maxRecDepth 100000 in
set_option maxHeartbeats 8000000 in
theorem lombardref02_div.callsZ0 (less : Bool) (N : Nat) (w : World) : Calls Try.prog 66 #[.agg (B.big less N), .int .i64 0, .int .i64 0] w fun e w' => e = .returned (.tuple #[.int .i64 0, .int .i64 4]) ∧ Below w.heap.size w w' := by
  have W1 := below_alloc (Below.refl w.heap.size w) (.cells (B.big less N) 101)
  go_enter Try.func66, Try.ntmps66
  go_wp2
  go_ret2
  exact ⟨rfl, W1⟩
set_option maxRecDepth 100000 in
set_option maxHeartbeats 8000000 in
theorem lombardref02_div.callsZ1 (less : Bool) (N : Nat) (w : World) : Calls Try.prog 66 #[.agg (B.big less N), .int .i64 0, .int .i64 1] w fun e w' => e = .returned (.tuple #[.int .i64 0, .int .i64 4]) ∧ Below w.heap.size w w' := by
  have W1 := below_alloc (Below.refl w.heap.size w) (.cells (B.big less N) 101)
  go_enter Try.func66, Try.ntmps66
  go_wp2
  go_ret2
  exact ⟨rfl, W1⟩
def lombardref02_div.v (less : Bool) (N : Nat) (b way : Int) : Int × Int :=
  if way ≠ 0 ∧ way ≠ 1 then (0, 2) else if b = 0 then (0, 4) else (lombardref02_div.r way (less != decide (b < 0)) N b.natAbs, lombardref02_div.e way (less != decide (b < 0)) N b.natAbs)
theorem lombardref02_div.calls (less : Bool) (N : Nat) (hN : N < 2 ^ 256) (b way : Int) (b0 : -9223372036854775808 ≤ b) (b1 : b ≤ 9223372036854775807) (w : World) : Calls Try.prog 66 #[.agg (B.big less N), .int .i64 b, .int .i64 way] w fun e w' => e = .returned (.tuple #[.int .i64 (lombardref02_div.v less N b way).1, .int .i64 (lombardref02_div.v less N b way).2]) ∧ Below w.heap.size w w' := by
  unfold lombardref02_div.v
  by_cases c : way ≠ 0 ∧ way ≠ 1
  · rw [if_pos c]
    exact lombardref02_div.callsW less N b way c.1 c.2 w
  · rw [if_neg c]
    by_cases z : b = 0
    · rw [if_pos z]
      subst z
      rcases (show way = 0 ∨ way = 1 by omega) with h | h <;> subst h
      · exact lombardref02_div.callsZ0 less N w
      · exact lombardref02_div.callsZ1 less N w
    · rw [if_neg z]
      rcases (show way = 0 ∨ way = 1 by omega) with h | h <;> subst h
      · exact lombardref02_div.calls0 less N hN b b0 b1 z w
      · exact lombardref02_div.calls1 less N hN b b0 b1 z w


end Go.Proofs.Ytalnlphinlfenaa.S
end

section
namespace Go.Proofs.Ytalnlphinlfenaa.S
open Go.RowKit Go.Proofs.YtalnlphinlfenaaW.PrintWords Go.Proofs.YtalnlphinlfenaaW.PrintLast Go.Proofs.YtalnlphinlfenaaW.PrintMore
attribute [local go_sem] max2_int min2_int max_two min_two max_three min_three max_four min_four   -- for this text's walks alone
attribute [local go_sem] Go.Proofs.Ytalnlphinlfenaa.XWalk.cell2
set_option linter.unusedVariables false
set_option linter.unusedSimpArgs false

/-! ### lombardref02_MulDiv: function 60 -/
-- IMPORT BigMath
def lombardref02_MulDiv.f (a0 a1 a2 a3 : Int) : Option (Int × Int) :=
  if -9223372036854775808 ≤ a0 ∧ a0 ≤ 9223372036854775807 ∧ -9223372036854775808 ≤ a1 ∧ a1 ≤ 9223372036854775807 ∧ -9223372036854775808 ≤ a2 ∧ a2 ≤ 9223372036854775807 then some (lombardref02_div.v (decide (a0 < 0) != decide (a1 < 0)) (a0.natAbs * a1.natAbs) a2 a3) else none
theorem lombardref02_MulDiv.lim {a b : Int} (a0 : -9223372036854775808 ≤ a) (a1 : a ≤ 9223372036854775807) (b0 : -9223372036854775808 ≤ b) (b1 : b ≤ 9223372036854775807) : a.natAbs * b.natAbs < 2 ^ 256 := by
  have h := Nat.mul_le_mul (show a.natAbs ≤ 9223372036854775808 by omega) (show b.natAbs ≤ 9223372036854775808 by omega)
  refine Nat.lt_of_le_of_lt h ?_
  decide
set_option maxRecDepth 100000 in
set_option maxHeartbeats 4000000 in
theorem lombardref02_MulDiv.calls (a0 a1 a2 a3 r1 r2 : Int) (w : World) (h : lombardref02_MulDiv.f a0 a1 a2 a3 = some (r1, r2)) : Calls Try.prog 60 #[.int .i64 a0, .int .i64 a1, .int .i64 a2, .int .i64 a3] w fun e w' => e = .returned (.tuple #[.int .i64 r1, .int .i64 r2]) ∧ Below w.heap.size w w' := by
  unfold lombardref02_MulDiv.f at h
  split at h
  · rename_i c
    have DV := fun W => lombardref02_div.calls (decide (a0 < 0) != decide (a1 < 0)) (a0.natAbs * a1.natAbs) (lombardref02_MulDiv.lim c.1 c.2.1 c.2.2.1 c.2.2.2.1) a2 a3 c.2.2.2.2.1 c.2.2.2.2.2 W
    have TM := fun W => lombardref02_times.calls a0 a1 c.1 c.2.1 c.2.2.1 c.2.2.2.1 W
    rw [Option.some.inj h] at DV
    generalize (decide (a0 < 0) != decide (a1 < 0)) = L at *
    generalize a0.natAbs * a1.natAbs = N at *
    clear h c
    have HB := Aside0.mk (Below.refl w.heap.size w)
    go_enter Try.func60, Try.ntmps60
    go_wp2_with (first | (go_at_call 67; (with_reducible refine (TM _).mono ?_); rintro e w1 ⟨rfl, h1⟩) | (go_at_call 66; (with_reducible refine (DV _).mono ?_); rintro e w2 ⟨rfl, h2⟩))
    go_ret2
    exact ⟨rfl, below_then h1 h1.size h2⟩
  · exact absurd h (by simp)


end Go.Proofs.Ytalnlphinlfenaa.S
end

section
namespace Go.Proofs.Ytalnlphinlfenaa.S
open Go.RowKit Go.Proofs.YtalnlphinlfenaaW.PrintWords Go.Proofs.YtalnlphinlfenaaW.PrintLast Go.Proofs.YtalnlphinlfenaaW.PrintMore
attribute [local go_sem] max2_int min2_int max_two min_two max_three min_three max_four min_four   -- for this text's walks alone
attribute [local go_sem] Go.Proofs.Ytalnlphinlfenaa.XWalk.cell2
set_option linter.unusedVariables false
set_option linter.unusedSimpArgs false

/-! ### lombardref03_near: function 51 -/
def lombardref03_near.f (a0 : Int) (a1 : Int) (a2 : Int) (a3 : Int) : Option (Int × Int) := (lombardref03_May.f a0).bind fun t217 => (if t217 = true then ((lombardref02_MulDiv.f a1 a2 a3 1).bind fun bt218 => (some (bt218.1, bt218.2))) else (some (0, 2)))
set_option maxHeartbeats 8000000 in
set_option maxRecDepth 100000 in
theorem lombardref03_near.calls (a0 : Int) (a1 : Int) (a2 : Int) (a3 : Int) (r1 : Int) (r2 : Int) (w : World) (h : lombardref03_near.f a0 a1 a2 a3 = some (r1, r2)) :
    Calls Try.prog 51 #[.int .i64 a0, .int .i64 a1, .int .i64 a2, .int .i64 a3] w fun e w' => e = .returned (.tuple #[.int .i64 r1, .int .i64 r2]) ∧ Below w.heap.size w w' := by
  have HB := Aside0.mk (Below.refl w.heap.size w)
  have H : ((lombardref03_May.f a0).bind fun t217 => (if t217 = true then ((lombardref02_MulDiv.f a1 a2 a3 1).bind fun bt218 => (some (bt218.1, bt218.2))) else (some (0, 2)))) = some (r1, r2) := h
  clear h
  replace H := Option.bind_eq_some_iff.mp H
  obtain ⟨t217, A50, H⟩ := H
  replace H : (if t217 = true then ((lombardref02_MulDiv.f a1 a2 a3 1).bind fun bt218 => (some (bt218.1, bt218.2))) else (some (0, 2))) = some (r1, r2) := H
  have A5 := Aside0.mk A50
  clear A50
  by_cases c6 : t217 = true
  · subst c6
    have H1 : ((lombardref02_MulDiv.f a1 a2 a3 1).bind fun bt218 => (some (bt218.1, bt218.2))) = some (r1, r2) := by rw [if_pos rfl] at H; exact H
    clear H
    have H := H1
    clear H1
    replace H := Option.bind_eq_some_iff.mp H
    obtain ⟨⟨t218, t219⟩, A70, H⟩ := H
    replace H : (some (t218, t219)) = some (r1, r2) := H
    have A7 := Aside0.mk A70
    clear A70
    simp only [Option.some.injEq, Prod.mk.injEq] at H
    obtain ⟨rfl, rfl⟩ := H
    go_enter Try.func51, Try.ntmps51
    go_wp2_with (first | ((with_reducible refine gate_callee (f := 34) rfl ?_); refine goesL_ (some 11) rfl rfl Try.func34 (by kernel_rfl) rfl #[.int .i64 a0] rfl (by (try simp only [List.map_toArray, List.map_cons, List.map_nil]); first | done | rfl | (simp only [List.length_drop, List.length_take]; rfl)) ?_; (with_reducible refine (lombardref03_May.calls a0 true _ A5.out).mono ?_); rintro e w' ⟨rfl, ⟨nd, rfl⟩⟩; refine ⟨_, rfl, ?_⟩) | ((with_reducible refine gate_callee (f := 60) rfl ?_); refine goesL_ (some 16) rfl rfl Try.func60 (by kernel_rfl) rfl #[.int .i64 a1, .int .i64 a2, .int .i64 a3, .int .i64 1] rfl (by (try simp only [List.map_toArray, List.map_cons, List.map_nil]); first | done | rfl | (simp only [List.length_drop, List.length_take]; rfl)) ?_; (with_reducible refine (lombardref02_MulDiv.calls a1 a2 a3 1 t218 t219 _ A7.out).mono ?_); rintro e w8 ⟨rfl, hb⟩; refine ⟨_, rfl, ?_⟩; have n0_ := Aside0.mk (below_step (by repeat (first | (with_reducible first | exact HB.out | apply below_alloc | apply pw_below_drewN | apply below_drew1) | exact HB.out)) hb); clear HB; have HB := n0_; clear n0_; (try clear hb); (try clear hb2); (try clear hk); (try clear hi)))
    go_ret2
    exact ⟨by first | rfl | (simp [errW_none, errW_some] <;> rfl) | (simp [*, errW_none, errW_some] <;> rfl), by repeat (first | (with_reducible first | exact HB.out | apply below_alloc | apply pw_below_drewN | apply below_drew1) | exact HB.out)⟩
  · replace c6 := Bool.eq_false_iff.mpr c6
    subst c6
    have H1 : (some (0, 2)) = some (r1, r2) := by rw [if_neg (show ¬ (false = true) by decide)] at H; exact H
    clear H
    have H := H1
    clear H1
    simp only [Option.some.injEq, Prod.mk.injEq] at H
    obtain ⟨rfl, rfl⟩ := H
    go_enter Try.func51, Try.ntmps51
    go_wp2_with (first | ((with_reducible refine gate_callee (f := 34) rfl ?_); refine goesL_ (some 11) rfl rfl Try.func34 (by kernel_rfl) rfl #[.int .i64 a0] rfl (by (try simp only [List.map_toArray, List.map_cons, List.map_nil]); first | done | rfl | (simp only [List.length_drop, List.length_take]; rfl)) ?_; (with_reducible refine (lombardref03_May.calls a0 false _ A5.out).mono ?_); rintro e w' ⟨rfl, ⟨nd, rfl⟩⟩; refine ⟨_, rfl, ?_⟩))
    go_ret2
    exact ⟨by first | rfl | (simp [errW_none, errW_some] <;> rfl) | (simp [*, errW_none, errW_some] <;> rfl), by repeat (first | (with_reducible first | exact HB.out | apply below_alloc | apply pw_below_drewN | apply below_drew1) | exact HB.out)⟩

end Go.Proofs.Ytalnlphinlfenaa.S
end

section
namespace Go.Proofs.Ytalnlphinlfenaa.S
open Go.RowKit Go.Proofs.YtalnlphinlfenaaW.PrintWords Go.Proofs.YtalnlphinlfenaaW.PrintLast Go.Proofs.YtalnlphinlfenaaW.PrintMore
attribute [local go_sem] max2_int min2_int max_two min_two max_three min_three max_four min_four   -- for this text's walks alone
attribute [local go_sem] Go.Proofs.Ytalnlphinlfenaa.XWalk.cell2
set_option linter.unusedVariables false
set_option linter.unusedSimpArgs false

/-! ### lombardref03_Interest: function 35 -/
def lombardref03_Interest.f (a0 : Int) (a1 : Int) : Option (Int × Int) := (lombardref03_near.f a1 a0 a1 1000000000000).bind fun bt220 => (some (bt220.1, bt220.2))
set_option maxHeartbeats 8000000 in
set_option maxRecDepth 100000 in
theorem lombardref03_Interest.calls (a0 : Int) (a1 : Int) (r1 : Int) (r2 : Int) (w : World) (h : lombardref03_Interest.f a0 a1 = some (r1, r2)) :
    Calls Try.prog 35 #[.int .i64 a0, .int .i64 a1] w fun e w' => e = .returned (.tuple #[.int .i64 r1, .int .i64 r2]) ∧ Below w.heap.size w w' := by
  have HB := Aside0.mk (Below.refl w.heap.size w)
  have H : ((lombardref03_near.f a1 a0 a1 1000000000000).bind fun bt220 => (some (bt220.1, bt220.2))) = some (r1, r2) := h
  clear h
  replace H := Option.bind_eq_some_iff.mp H
  obtain ⟨⟨t220, t221⟩, A30, H⟩ := H
  replace H : (some (t220, t221)) = some (r1, r2) := H
  have A3 := Aside0.mk A30
  clear A30
  simp only [Option.some.injEq, Prod.mk.injEq] at H
  obtain ⟨rfl, rfl⟩ := H
  go_enter Try.func35, Try.ntmps35
  go_wp2_with (first | ((with_reducible refine gate_callee (f := 51) rfl ?_); refine goesL_ (some 9) rfl rfl Try.func51 (by kernel_rfl) rfl #[.int .i64 a1, .int .i64 a0, .int .i64 a1, .int .i64 1000000000000] rfl (by (try simp only [List.map_toArray, List.map_cons, List.map_nil]); first | done | rfl | (simp only [List.length_drop, List.length_take]; rfl)) ?_; (with_reducible refine (lombardref03_near.calls a1 a0 a1 1000000000000 t220 t221 _ A3.out).mono ?_); rintro e w4 ⟨rfl, hb⟩; refine ⟨_, rfl, ?_⟩; have n0_ := Aside0.mk (below_step (by repeat (first | (with_reducible first | exact HB.out | apply below_alloc | apply pw_below_drewN | apply below_drew1) | exact HB.out)) hb); clear HB; have HB := n0_; clear n0_; (try clear hb); (try clear hb2); (try clear hk); (try clear hi)))
  go_ret2
  exact ⟨by first | rfl | (simp [errW_none, errW_some] <;> rfl) | (simp [*, errW_none, errW_some] <;> rfl), by repeat (first | (with_reducible first | exact HB.out | apply below_alloc | apply pw_below_drewN | apply below_drew1) | exact HB.out)⟩

end Go.Proofs.Ytalnlphinlfenaa.S
end

section
namespace Go.Proofs.Ytalnlphinlfenaa.S
open Go.RowKit Go.Proofs.YtalnlphinlfenaaW.PrintWords Go.Proofs.YtalnlphinlfenaaW.PrintLast Go.Proofs.YtalnlphinlfenaaW.PrintMore
attribute [local go_sem] max2_int min2_int max_two min_two max_three min_three max_four min_four   -- for this text's walks alone
attribute [local go_sem] Go.Proofs.Ytalnlphinlfenaa.XWalk.cell2
set_option linter.unusedVariables false
set_option linter.unusedSimpArgs false

/-! ### lombardref01_Sub: function 48 -/
def lombardref01_Sub.f (a0 : Int) (a1 : Int) : Option (Int × Int) := if a1 < 0 then (if a0 > (wrap64 (9223372036854775807 + a1)) then (some (0, 3)) else (if a1 > 0 then (if a0 < (wrap64 ((-9223372036854775808) + a1)) then (some (0, 3)) else (some (wrap64 (a0 - a1), 0))) else (some (wrap64 (a0 - a1), 0)))) else (if a1 > 0 then (if a0 < (wrap64 ((-9223372036854775808) + a1)) then (some (0, 3)) else (some (wrap64 (a0 - a1), 0))) else (some (wrap64 (a0 - a1), 0)))
set_option maxHeartbeats 8000000 in
set_option maxRecDepth 100000 in
theorem lombardref01_Sub.calls (a0 : Int) (a1 : Int) (r1 : Int) (r2 : Int) (w : World) (h : lombardref01_Sub.f a0 a1 = some (r1, r2)) :
    Calls Try.prog 48 #[.int .i64 a0, .int .i64 a1] w fun e w' => e = .returned (.tuple #[.int .i64 r1, .int .i64 r2]) ∧ Drawn0 w w' := by
  have H : (if a1 < 0 then (if a0 > (wrap64 (9223372036854775807 + a1)) then (some (0, 3)) else (if a1 > 0 then (if a0 < (wrap64 ((-9223372036854775808) + a1)) then (some (0, 3)) else (some (wrap64 (a0 - a1), 0))) else (some (wrap64 (a0 - a1), 0)))) else (if a1 > 0 then (if a0 < (wrap64 ((-9223372036854775808) + a1)) then (some (0, 3)) else (some (wrap64 (a0 - a1), 0))) else (some (wrap64 (a0 - a1), 0)))) = some (r1, r2) := h
  clear h
  by_cases c3 : a1 < 0
  · rw [if_pos c3] at H
    have c3b0 : decide (a1 < 0) = true := decide_eq_true c3
    clear c3
    by_cases c4 : a0 > (wrap64 (9223372036854775807 + a1))
    · rw [if_pos c4] at H
      have c4b0 : decide ((wrap64 (9223372036854775807 + a1)) < a0) = true := decide_eq_true c4
      clear c4
      simp only [Option.some.injEq, Prod.mk.injEq] at H
      obtain ⟨rfl, rfl⟩ := H
      go_enter Try.func48, Try.ntmps48
      go_wp2
      go_ret2
      exact ⟨by first | rfl | (simp; done) | (simp [*]; done), by repeat (first | exact Drawn0.refl _ | apply Drawn0.step)⟩
    · rw [if_neg c4] at H
      have c4b0 : decide ((wrap64 (9223372036854775807 + a1)) < a0) = false := decide_eq_false c4
      clear c4
      by_cases c5 : a1 > 0
      · rw [if_pos c5] at H
        have c5b0 : decide (0 < a1) = true := decide_eq_true c5
        clear c5
        by_cases c6 : a0 < (wrap64 ((-9223372036854775808) + a1))
        · rw [if_pos c6] at H
          have c6b0 : decide (a0 < (wrap64 ((-9223372036854775808) + a1))) = true := decide_eq_true c6
          clear c6
          simp only [Option.some.injEq, Prod.mk.injEq] at H
          obtain ⟨rfl, rfl⟩ := H
          go_enter Try.func48, Try.ntmps48
          go_wp2
          go_ret2
          exact ⟨by first | rfl | (simp; done) | (simp [*]; done), by repeat (first | exact Drawn0.refl _ | apply Drawn0.step)⟩
        · rw [if_neg c6] at H
          have c6b0 : decide (a0 < (wrap64 ((-9223372036854775808) + a1))) = false := decide_eq_false c6
          clear c6
          simp only [Option.some.injEq, Prod.mk.injEq] at H
          obtain ⟨rfl, rfl⟩ := H
          go_enter Try.func48, Try.ntmps48
          go_wp2
          go_ret2
          exact ⟨by first | rfl | (simp; done) | (simp [*]; done), by repeat (first | exact Drawn0.refl _ | apply Drawn0.step)⟩
      · rw [if_neg c5] at H
        have c5b0 : decide (0 < a1) = false := decide_eq_false c5
        clear c5
        simp only [Option.some.injEq, Prod.mk.injEq] at H
        obtain ⟨rfl, rfl⟩ := H
        go_enter Try.func48, Try.ntmps48
        go_wp2
        go_ret2
        exact ⟨by first | rfl | (simp; done) | (simp [*]; done), by repeat (first | exact Drawn0.refl _ | apply Drawn0.step)⟩
  · rw [if_neg c3] at H
    have c3b0 : decide (a1 < 0) = false := decide_eq_false c3
    clear c3
    by_cases c7 : a1 > 0
    · rw [if_pos c7] at H
      have c7b0 : decide (0 < a1) = true := decide_eq_true c7
      clear c7
      by_cases c8 : a0 < (wrap64 ((-9223372036854775808) + a1))
      · rw [if_pos c8] at H
        have c8b0 : decide (a0 < (wrap64 ((-9223372036854775808) + a1))) = true := decide_eq_true c8
        clear c8
        simp only [Option.some.injEq, Prod.mk.injEq] at H
        obtain ⟨rfl, rfl⟩ := H
        go_enter Try.func48, Try.ntmps48
        go_wp2
        go_ret2
        exact ⟨by first | rfl | (simp; done) | (simp [*]; done), by repeat (first | exact Drawn0.refl _ | apply Drawn0.step)⟩
      · rw [if_neg c8] at H
        have c8b0 : decide (a0 < (wrap64 ((-9223372036854775808) + a1))) = false := decide_eq_false c8
        clear c8
        simp only [Option.some.injEq, Prod.mk.injEq] at H
        obtain ⟨rfl, rfl⟩ := H
        go_enter Try.func48, Try.ntmps48
        go_wp2
        go_ret2
        exact ⟨by first | rfl | (simp; done) | (simp [*]; done), by repeat (first | exact Drawn0.refl _ | apply Drawn0.step)⟩
    · rw [if_neg c7] at H
      have c7b0 : decide (0 < a1) = false := decide_eq_false c7
      clear c7
      simp only [Option.some.injEq, Prod.mk.injEq] at H
      obtain ⟨rfl, rfl⟩ := H
      go_enter Try.func48, Try.ntmps48
      go_wp2
      go_ret2
      exact ⟨by first | rfl | (simp; done) | (simp [*]; done), by repeat (first | exact Drawn0.refl _ | apply Drawn0.step)⟩

end Go.Proofs.Ytalnlphinlfenaa.S
end

section
namespace Go.Proofs.Ytalnlphinlfenaa.S
open Go.RowKit Go.Proofs.YtalnlphinlfenaaW.PrintWords Go.Proofs.YtalnlphinlfenaaW.PrintLast Go.Proofs.YtalnlphinlfenaaW.PrintMore
attribute [local go_sem] max2_int min2_int max_two min_two max_three min_three max_four min_four   -- for this text's walks alone
attribute [local go_sem] Go.Proofs.Ytalnlphinlfenaa.XWalk.cell2
set_option linter.unusedVariables false
set_option linter.unusedSimpArgs false

/-! ### lombardref11_beyond: function 36 -/
def lombardref11_beyond.f (a0_0 : Int) (a0_1 : Int) (a0_2 : Int) (a0_3 : Int) : Option (Bool) := (lombardref01_Add.f a0_0 a0_1).bind fun bt223 => (if bt223.2 = 0 then ((lombardref01_Sub.f bt223.1 a0_2).bind fun bt225 => (if bt225.2 = 0 then (if bt225.1 > 4611686018427387904 then (some true) else (some (decide (bt225.1 < (-4611686018427387904))))) else (some true))) else (some true))
end Go.Proofs.Ytalnlphinlfenaa.S
end

section
namespace Go.Proofs.Ytalnlphinlfenaa.S
open Go.RowKit Go.Proofs.YtalnlphinlfenaaW.PrintWords Go.Proofs.YtalnlphinlfenaaW.PrintLast Go.Proofs.YtalnlphinlfenaaW.PrintMore
attribute [local go_sem] max2_int min2_int max_two min_two max_three min_three max_four min_four   -- for this text's walks alone
attribute [local go_sem] Go.Proofs.Ytalnlphinlfenaa.XWalk.cell2
set_option linter.unusedVariables false
set_option linter.unusedSimpArgs false

/-! ### lombardref11_Roll: function 13 -/
mutual
def lombardref11_Roll.j0 : Nat → Int → List Int → Int → Bool → Option ((List (S59)) × Int)
  | 0, _, _, _, _ => none
  | k + 1, x0, x1, x2, x37 => if x37 = true then (some (([] : List (S59)), 2)) else (lombardref11_Roll.l0 k x0 x1 x2 x1 (x1.length : Int) 0)
def lombardref11_Roll.l0 : Nat → Int → List Int → Int → List Int → Int → Int → Option ((List (S59)) × Int)
  | 0, _, _, _, _, _, _ => none
  | k + 1, x0, x1, x2, x38, x39, x40 => if x40 < x39 then (if 0 ≤ x40 then (if x40 < (x38.length : Int) then (if (rd x38 x40) < 0 then (some (([] : List (S59)), 2)) else (if (rd x38 x40) > 10000000000000 then (some (([] : List (S59)), 2)) else (lombardref11_Roll.l0 k x0 x1 x2 x38 x39 (wrap64 (x40 + 1))))) else (none)) else (none)) else (lombardref11_Roll.l1 k x1 x2 ([] : List (S59)) x0 x1 (x1.length : Int) 0)
def lombardref11_Roll.l1 : Nat → List Int → Int → List (S59) → Int → List Int → Int → Int → Option ((List (S59)) × Int)
  | 0, _, _, _, _, _, _, _ => none
  | k + 1, x1, x2, x10, x11, x52, x53, x54 => if x54 < x53 then (if 0 ≤ x54 then (if x54 < (x52.length : Int) then (if x54 = (wrap64 ((x1.length : Int) - 1)) then ((lombardref11_beyond.f x11 (wrap64 ((rd x52 x54) - x11)) (rd x52 x54) 0).bind fun t231 => (if t231 = true then (some (([] : List (S59)), 3)) else (if x10.length < 4398046511104 then (lombardref11_Roll.l1 k x1 x2 (x10 ++ [(⟨x11, wrap64 ((rd x52 x54) - x11), rd x52 x54, wrap64 ((wrap64 (x11 + (wrap64 ((rd x52 x54) - x11)))) - (rd x52 x54))⟩ : S59)]) (wrap64 ((wrap64 (x11 + (wrap64 ((rd x52 x54) - x11)))) - (rd x52 x54))) x52 x53 (wrap64 (x54 + 1))) else (none)))) else ((lombardref03_Interest.f x11 x2).bind fun bt235 => (if bt235.2 = 0 then ((lombardref11_beyond.f x11 bt235.1 (rd x52 x54) 0).bind fun t237 => (if t237 = true then (some (([] : List (S59)), 3)) else (if x10.length < 4398046511104 then (lombardref11_Roll.l1 k x1 x2 (x10 ++ [(⟨x11, bt235.1, rd x52 x54, wrap64 ((wrap64 (x11 + bt235.1)) - (rd x52 x54))⟩ : S59)]) (wrap64 ((wrap64 (x11 + bt235.1)) - (rd x52 x54))) x52 x53 (wrap64 (x54 + 1))) else (none)))) else (some (([] : List (S59)), bt235.2))))) else (none)) else (none)) else (some (x10, 0))
end
def lombardref11_Roll.f (k : Nat) (a0 : Int) (l1 : List Int) (a2 : Int) : Option ((List (S59)) × Int) := if (l1.length : Int) < 1 then (lombardref11_Roll.j0 k a0 l1 a2 true) else (if (l1.length : Int) > 600 then (lombardref11_Roll.j0 k a0 l1 a2 true) else (if a0 < 1 then (lombardref11_Roll.j0 k a0 l1 a2 true) else (if a0 > 10000000000000 then (lombardref11_Roll.j0 k a0 l1 a2 true) else ((lombardref03_May.f a2).bind fun t227 => (lombardref11_Roll.j0 k a0 l1 a2 (!t227))))))
end Go.Proofs.Ytalnlphinlfenaa.S
end
